/- Walks of functions that the law reaches, and what they lean on; no conditions. -/
import Derived.Test.YtmaiakpjgomnpaaGreatM1
import Derived.KernelRfl
import Derived.Test.YtmaiakpjgomnpaaGreatM5
import Derived.Test.YtmaiakpjgomnpaaGreatM2
import Derived.Test.YtmaiakpjgomnpaaGreatM3
import Derived.Test.YtmaiakpjgomnpaaGreatM4
import Derived.Laws.BytesArg
import Derived.Shelf.Sort.Plain
set_option linter.unusedVariables false
set_option linter.unusedSimpArgs false
set_option maxRecDepth 100000
namespace Go.Proofs.YtmaiakpjgomnpaaGreat
open Go.Sl 
theorem oI : dC Tryz.prog ⟨[], []⟩ = true := by kernel_rfl
attribute [local irreducible] ag.cu ag.tk ag.ord ag.cQ ag.words ag.dj ad.iM ad.dh ad.dI ad.ew ad.hL ad.hD ad.hC ad.fE ad.told ad.gf ad.js ad.rep ad.ft ad.eJ ad.sym ad.dL ak.aV ad.fb ad.dR ad.one ad.fa
theorem jZ {b bl : Nat} {sz mo : Int} {B : List Int} {s : ad.St} {w0 : World} {h : Hp} (hh : MM b bl sz mo B s w0 h) : ∃ i : Pv, True ∧ dq w0 [MS b bl sz mo i.li i.di s, LW bl B s.at_ [] 0, CD i.li i.di s] h := hh
def MD (b bl : Nat) (sz mo e : Int) : ab := fun w0 h => ∃ i : Vx, True ∧ dq w0 [ao b 223 [.pointer (some ⟨bl, 0, none⟩), .int .i64 sz, .int .i64 mo, .slice none 0 0, .bool true, .int .i64 e, i.v6, i.v7, i.v8, i.v9, i.v10, i.v11, i.v12]] h
theorem kr {b bl : Nat} {sz mo e : Int} {v6 v7 v8 v9 v10 v11 v12 : Value} {w0 : World} {h : Hp}
  (hh : dq w0 [ao b 223 [.pointer (some ⟨bl, 0, none⟩), .int .i64 sz, .int .i64 mo, .slice none 0 0, .bool true, .int .i64 e, v6, v7, v8, v9, v10, v11, v12]] h) : MD b bl sz mo e w0 h := ⟨⟨.nilFunc, .nilFunc, .nilFunc, v6, v7, v8, v9, v10, v11, v12⟩, trivial, hh⟩
def MJ (b bl : Nat) (sz mo : Int) (B : List Int) : ad.Jt → ab
 | .ok s => MM b bl sz mo B s
 | .error e => MD b bl sz mo e
set_option maxHeartbeats 2000000 in
theorem yw (bm bw bn b bl : Nat) (sz mo : Int) (w : Nat) (n : Int) (s0 : ad.St) (o : Except Int ad.St) (B : List Int) (hl : B.length < 500000000) (hB : ak.az B) (hm : mo < 1000000000) (hw : w < 1000000000) (hok0 : ad.Ok B mo s0) (hlp0 : ad.Lp B mo w n s0 o) : aK Tryz.prog 168 [.pointer (some ⟨bm, 0, none⟩), .pointer (some ⟨bw, 0, none⟩), .pointer (some ⟨bn, 0, none⟩)] [ao bm 204 [.pointer (some ⟨b, 0, none⟩)], ao bw 3 [.int .i64 (w : Int)], ao bn 3 [.int .i64 n], MM b bl sz mo B s0] (iJ o (fun s2 v G => v = .tuple #[] ∧ G = [ao bm 204 [.pointer (some ⟨b, 0, none⟩)], ao bw 3 [.int .i64 (w : Int)], ao bn 3 [.int .i64 n], MM b bl sz mo B s2]) [ao bm 204 [.pointer (some ⟨b, 0, none⟩)], ao bw 3 [.int .i64 (w : Int)], ao bn 3 [.int .i64 n], MX b bl sz mo]) := by
 refine ax [(0, _), (1, _), (2, _)] Tryz.func168 rfl Tryz.ntmps168 rfl rfl ?_
 intro w0 F
 refine rT oI 1 rfl ?_
 refine dV (fun (s : ad.St) => [(0, .pointer (some ⟨bm, 0, none⟩)), (1, .pointer (some ⟨bw, 0, none⟩)), (2, .pointer (some ⟨bn, 0, none⟩))]) (fun (s : ad.St) => MM b bl sz mo B s :: ao bm 204 [.pointer (some ⟨b, 0, none⟩)] :: ao bw 3 [.int .i64 (w : Int)] :: ao bn 3 [.int .i64 n] :: F) (fun (s : ad.St) => ad.Ok B mo s ∧ ad.Lp B mo w n s o) (fun (s : ad.St) => ad.mu B s) (i1 (s0) ?_ (jm ln) (sub (.cons eg (im .nil)) au)) ?_
 ·exact ⟨hok0, hlp0⟩
 intro s
 rintro ⟨hok, hlp⟩
 rcases (Bool.eq_false_or_eq_true s.ended) with he | he
 ·refine rL oI 2 rfl ?_
  have hro := hok.room
  refine gr dX (fun h hh => jZ hh) ?_
  rintro ⟨li, di⟩ _
  dsimp only
  simp only [List.cons_append, List.nil_append]
  refine gJ (fun h hh => iQ hh) ?_
  rintro ⟨po, co⟩ _
  dsimp only
  simp only [List.cons_append, List.nil_append]
  refine wN [pz 0 [] [0], pz 1 [0] [], pz 3 [1] [], pz 7 [2] [], pz 15 [3] [], pz 31 [4] [], pz 63 [5] [0], pz 127 [6, 5] [], pz 255 [7, 5] [], pz 511 [8, 5] [], pz 1023 [9, 5] [], pz 63 [5] [1], pz 4095 [10, 11, 5] [], pz 63 [5] [2], pz 16383 [12, 13, 5] [], pz 32767 [5, 14] []] [⟨fun y => ao b 223 [.pointer (some ⟨bl, 0, none⟩), .int .i64 sz, .int .i64 mo, .slice po s.out.length co, .bool s.ended, .int .i64 0, .int .i64 s.kind, .int .i64 (s.left : Int), .bool s.last, li, di, .int .i64 (s.aB : Int), .int .i64 (s.cE : Int)], none, none, [3]⟩, ⟨fun y => Row U5 po s.out.length co s.out, none, none, []⟩, ⟨fun y => LW bl B s.at_ [] 0, none, none, []⟩, ⟨fun y => CD li di s, none, none, []⟩, ⟨fun y => ao bm 204 [.pointer (some ⟨b, 0, none⟩)], none, none, [0]⟩, ⟨fun y => ao bw 3 [.int .i64 (w : Int)], none, none, []⟩, ⟨fun y => ao bn 3 [.int .i64 n], none, none, []⟩] F V.mixed ?_
  refine nR (fun y FF hA => af V.gR rfl an rfl) ?_
  refine nN ?_
  refine nG V.xS ?_
  refine nR (fun y FF hA => cN (v := .bool true) (af V.s4 rfl an rfl) (by rw [he])) ?_
  refine nV (fun y hA L => cN (v := .bool false) (l8 rfl) rfl) ?_
  refine nM ?_
  refine bU _ (fun y => rfl) rfl rfl rfl (fun y hA L => eZ rfl rfl ⟨rfl, rfl⟩) (by intros; rfl) (by intro y y2 h; rfl) ?_
  refine bU _ (fun y => rfl) rfl rfl rfl (fun y hA L => eZ rfl rfl ⟨rfl, rfl⟩) (by intros; rfl) (by intro y y2 h; rfl) ?_
  refine bU _ (fun y => rfl) rfl rfl rfl (fun y hA L => eZ rfl rfl ⟨rfl, rfl⟩) (by intros; rfl) (by intro y y2 h; rfl) ?_
  refine bU _ (fun y => rfl) rfl rfl rfl (fun y hA L => eZ rfl rfl ⟨rfl, rfl⟩) (by intros; rfl) (by intro y y2 h; rfl) ?_
  refine bU _ (fun y => rfl) rfl rfl rfl (fun y hA L => eZ rfl rfl ⟨rfl, rfl⟩) (by intros; rfl) (by intro y y2 h; rfl) ?_
  refine bU _ (fun y => rfl) rfl rfl rfl (fun y hA L => eZ rfl rfl ⟨rfl, rfl⟩) (by intros; rfl) (by intro y y2 h; rfl) ?_
  refine bU _ (fun y => rfl) rfl rfl rfl (fun y hA L => eZ rfl rfl ⟨rfl, rfl⟩) (by intros; rfl) (by intro y y2 h; rfl) ?_
  refine bU _ (fun y => rfl) rfl rfl rfl (fun y hA L => eZ rfl rfl ⟨rfl, rfl⟩) (by intros; rfl) (by intro y y2 h; rfl) ?_
  refine bU _ (fun y => rfl) rfl rfl rfl (fun y hA L => eZ rfl rfl ⟨rfl, rfl⟩) (by intros; rfl) (by intro y y2 h; rfl) ?_
  refine nV (fun y hA L => uN rfl rfl) ?_
  refine aX ?_
  intro y hA
  clear hA
  refine bu ?_
  refine cy _ (.cons (d := 0) rfl (.cons (d := 1) rfl (.cons (d := 2) rfl (.cons (d := 18) rfl (.nil _))))) ?_
  refine bR (M := ao b 223 [.pointer (some ⟨bl, 0, none⟩), .int .i64 sz, .int .i64 mo, .slice po s.out.length co, .bool s.ended, .int .i64 0, .int .i64 s.kind, .int .i64 (s.left : Int), .bool s.last, li, di, .int .i64 (s.aB : Int), .int .i64 (s.cE : Int)] :: Row U5 po s.out.length co s.out :: LW bl B s.at_ [] 0 :: CD li di s :: ao bm 204 [.pointer (some ⟨b, 0, none⟩)] :: ao bw 3 [.int .i64 (w : Int)] :: ao bn 3 [.int .i64 n] :: F) (fun _ _ h => h) ?_
  refine rC oI 5 rfl ?_
  refine (fun hs => iE (x := s) (ad.Fq hlp (by exact .inl he)) fK ⟨rfl, rfl⟩ (Sl.Sub.trans ((bd (bp .nil) .refl (fun w0 h hh => dE (s := s) rfl hh)).trans (bd (im .nil) .refl (fun w0 h hh => fw (s := s) hh))) hs)) (sub (.cons aE (.cons aE (.cons aE (aw .nil)))) au)
 ·refine rL oI 2 rfl ?_
  have hro := hok.room
  refine gr dX (fun h hh => jZ hh) ?_
  rintro ⟨li, di⟩ _
  dsimp only
  simp only [List.cons_append, List.nil_append]
  refine gJ (fun h hh => iQ hh) ?_
  rintro ⟨po, co⟩ _
  dsimp only
  simp only [List.cons_append, List.nil_append]
  refine wN [pz 0 [] [0], pz 1 [0] [], pz 3 [1] [], pz 7 [2] [], pz 15 [3] [], pz 31 [4] [], pz 63 [5] [0], pz 127 [6, 5] [], pz 255 [7, 5] [], pz 511 [8, 5] [], pz 1023 [9, 5] [], pz 63 [5] [1], pz 4095 [10, 11, 5] [], pz 63 [5] [2], pz 16383 [12, 13, 5] [], pz 32767 [5, 14] []] [⟨fun y => ao b 223 [.pointer (some ⟨bl, 0, none⟩), .int .i64 sz, .int .i64 mo, .slice po s.out.length co, .bool s.ended, .int .i64 0, .int .i64 s.kind, .int .i64 (s.left : Int), .bool s.last, li, di, .int .i64 (s.aB : Int), .int .i64 (s.cE : Int)], none, none, [3, 9]⟩, ⟨fun y => Row U5 po s.out.length co s.out, none, none, []⟩, ⟨fun y => LW bl B s.at_ [] 0, none, none, []⟩, ⟨fun y => CD li di s, none, none, []⟩, ⟨fun y => ao bm 204 [.pointer (some ⟨b, 0, none⟩)], none, none, [0, 6]⟩, ⟨fun y => ao bw 3 [.int .i64 (w : Int)], none, none, [11]⟩, ⟨fun y => ao bn 3 [.int .i64 n], none, none, [13]⟩] F V.mixed ?_
  refine nR (fun y FF hA => af V.gR rfl an rfl) ?_
  refine nN ?_
  refine nG V.xS ?_
  refine nR (fun y FF hA => cN (v := .bool false) (af V.s4 rfl an rfl) (by rw [he])) ?_
  refine nV (fun y hA L => cN (v := .bool true) (l8 rfl) rfl) ?_
  refine nM ?_
  refine jL _ _ (fun y => rfl) rfl (fun y => rfl) rfl (fun y FF hA => e9 rfl (dp (af V.gR rfl an rfl) ⟨rfl, rfl⟩)) (by intros; rfl) (by intro y y2 h; rfl) ?_
  refine bU _ (fun y => rfl) rfl rfl rfl (fun y hA L => e9 rfl (dp (AA rfl) ⟨rfl, rfl⟩)) (by intros; rfl) (by intro y y2 h; rfl) ?_
  refine bU _ (fun y => rfl) rfl rfl rfl (fun y hA L => e9 rfl (dp (aF V.kV rfl) ⟨rfl, rfl⟩)) (by intros; rfl) (by intro y y2 h; rfl) ?_
  refine jL _ _ (fun y => rfl) rfl (fun y => rfl) rfl (fun y FF hA => e9 rfl (dp (af V.eA rfl an rfl) ⟨rfl, rfl⟩)) (by intros; rfl) (by intro y y2 h; rfl) ?_
  refine bU _ (fun y => rfl) rfl rfl rfl (fun y hA L => e9 rfl (dp (eM (ty' := 0) Tryz.underlying22 rfl) ⟨rfl, rfl⟩)) (by intros; rfl) (by intro y y2 h; rfl) ?_
  refine jL _ _ (fun y => rfl) rfl (fun y => rfl) rfl (fun y FF hA => e9 rfl (dp (af V.s3 rfl an rfl) ⟨rfl, rfl⟩)) (by intros; rfl) (by intro y y2 h; rfl) ?_
  refine bU _ (fun y => rfl) rfl rfl rfl (fun y hA L => e9 rfl (dp (gp rfl rfl wI) ⟨rfl, rfl⟩)) (by intros; rfl) (by intro y y2 h; rfl) ?_
  refine jL _ _ (fun y => rfl) rfl (fun y => rfl) rfl (fun y FF hA => e9 rfl (dp (af V.s3 rfl an rfl) ⟨rfl, rfl⟩)) (by intros; rfl) (by intro y y2 h; rfl) ?_
  refine bU _ (fun y => rfl) rfl rfl rfl (fun y hA L => e9 rfl (dp (bD rfl rfl) ⟨rfl, rfl⟩)) (by intros; rfl) (by intro y y2 h; rfl) ?_
  refine nV (fun y hA L => ju rfl rfl) ?_
  refine aX ?_
  intro y hA
  clear hA
  refine bu ?_
  refine cy _ (.cons (d := 0) rfl (.cons (d := 1) rfl (.cons (d := 2) rfl (.cons (d := 18) rfl (.nil _))))) ?_
  refine bR (M := ao b 223 [.pointer (some ⟨bl, 0, none⟩), .int .i64 sz, .int .i64 mo, .slice po s.out.length co, .bool s.ended, .int .i64 0, .int .i64 s.kind, .int .i64 (s.left : Int), .bool s.last, li, di, .int .i64 (s.aB : Int), .int .i64 (s.cE : Int)] :: Row U5 po s.out.length co s.out :: LW bl B s.at_ [] 0 :: CD li di s :: ao bm 204 [.pointer (some ⟨b, 0, none⟩)] :: ao bw 3 [.int .i64 (w : Int)] :: ao bn 3 [.int .i64 n] :: F) (fun _ _ h => h) ?_
  refine aP rfl (fun h18 => ?_) (fun h18 => ?_)
  ·refine rC oI 3 rfl ?_
   rcases (ad.gH (ad.one B mo s)) with ⟨e, hp⟩ | ⟨s2, hp⟩
   ·refine bR ((bd (bp .nil) .refl (fun w0 h hh => dE (s := s) rfl hh)).trans (bd (im .nil) .refl (fun w0 h hh => fw (s := s) hh))) ?_
    refine bo ?_
    refine oV (af V.gR rfl bY rfl) ?_
    refine dJ ((Ff b bl sz mo s B hl hB hm hok).err hp) V.KN rfl (aw .nil) ?_
    rintro _ _ ⟨hpe, rfl⟩
    refine (fu (dZ (fu ?_)))
    exact ez (ad.NX hlp he (by omega) hp) hpe (sub (.cons aE (.cons aE (.cons aE (aw .nil)))) au)
   ·refine bR ((bd (bp .nil) .refl (fun w0 h hh => dE (s := s) rfl hh)).trans (bd (im .nil) .refl (fun w0 h hh => fw (s := s) hh))) ?_
    have hg := ad.lM hB hok hp
    refine bo ?_
    refine oV (af V.gR rfl bY rfl) ?_
    refine ai ((Ff b bl sz mo s B hl hB hm hok).ok hp) V.KN  rfl (aw .nil) rfl ?_
    rintro _ _ ⟨rfl, rfl⟩
    refine rO oI 2 rfl ?_
    refine j1 (s2) ?_ (jm ln) (sub (nz .nil) au)
    exact ⟨⟨hg.ok, ad.NW hlp he (by omega) hp⟩, hg.less⟩
  ·refine rC oI 4 rfl ?_
   refine (fun hs => iE (x := s) (ad.Fq hlp (by exact .inr (by omega))) fK ⟨rfl, rfl⟩ (Sl.Sub.trans ((bd (bp .nil) .refl (fun w0 h hh => dE (s := s) rfl hh)).trans (bd (im .nil) .refl (fun w0 h hh => fw (s := s) hh))) hs)) (sub (.cons aE (.cons aE (.cons aE (aw .nil)))) au)
end Go.Proofs.YtmaiakpjgomnpaaGreat
namespace Go.Proofs.YtmaiakpjgomnpaaGreat
open Go.Sl 
theorem bF : dC Tryz.prog ⟨[22], [(223, 0, 0), (223, 3, 3), (223, 4, 4), (223, 5, 5)]⟩ = true := by kernel_rfl
attribute [local irreducible] ag.cu ag.tk ag.ord ag.cQ ag.words ag.dj ad.iM ad.dh ad.dI ad.ew ad.hL ad.hD ad.hC ad.fE ad.told ad.gf ad.js ad.rep ad.ft ad.eJ ad.sym ad.dL ak.aV ad.fb ad.dR ad.one ad.fa
set_option maxHeartbeats 2000000 in
theorem DJ (b bl : Nat) (sz mo : Int) (B : List Int) (s : ad.St) (n : Int) (hok : ad.Ok B mo s) (hm : mo < 1000000000) (hx : n < 1 ∨ s.ended = true) : aK Tryz.prog 147 [.pointer (some ⟨b, 0, none⟩), .int .i64 n] [MM b bl sz mo B s] (aR fun v G => v = .bool s.ended ∧ G = [MM b bl sz mo B s]) := by
 refine ax [(0, _), (1, _)] Tryz.func147 rfl Tryz.ntmps147 rfl rfl ?_
 intro w0 F
 have hro := hok.room
 refine gr dX (fun h hh => jZ hh) ?_
 rintro ⟨li, di⟩ _
 dsimp only
 simp only [List.cons_append, List.nil_append]
 refine gJ (fun h hh => iQ hh) ?_
 rintro ⟨po, co⟩ _
 dsimp only
 simp only [List.cons_append, List.nil_append]
 refine rT bF 2 rfl ?_
 refine eU rfl (cs := [_]) rfl rfl ?_
 intro b2
 refine eU rfl (cs := [_]) rfl rfl ?_
 intro b3
 refine rO bF 6 rfl ?_
 refine oV (af V.gR rfl bY rfl) ?_
 refine oV (cN (v := .bool false) (iS Tryz.underlying204 rfl rfl) rfl) ?_
 refine oV (aG rfl) ?_
 refine ae rfl ?_
 refine oV (af V.gR rfl bY rfl) ?_
 refine rO bF 2 rfl ?_
 refine ae rfl ?_
 refine oV (af V.dT rfl cx rfl) ?_
 refine ae rfl ?_
 refine oV (cN (v := .bool false) (iS Tryz.underlying219 rfl rfl) rfl) ?_
 refine rO bF 6 rfl ?_
 rcases (Classical.em (n < 1)) with h1 | h1
 ·refine rC bF 3 rfl ?_
  refine oV (af V.s3 rfl an rfl) ?_
  refine oV (aU (bD rfl rfl) h1) ?_
  refine rO bF 11 rfl ?_
  refine oV (af V.gR rfl bY rfl) ?_
  refine rO bF 2 rfl ?_
  refine oV (af V.s4 rfl cx rfl) ?_
  refine rO bF 5 rfl ?_
  exact aj (aC rfl) ⟨rfl, rfl⟩ (Sl.Sub.trans ((bd (.cons bK (.cons bK .nil)) .refl (fun w0 h hh => dE (s := s) rfl hh)).trans (bd (aw (.cons bK (.cons bK .nil))) .refl (fun w0 h hh => fw (s := s) hh))) (sub (aw .nil) fS))
 ·refine rC bF 3 rfl ?_
  refine oV (af V.s3 rfl an rfl) ?_
  refine oV (aA (bD rfl rfl) h1) ?_
  refine oV (aG rfl) ?_
  refine ae rfl ?_
  refine oV (af V.gR rfl bY rfl) ?_
  refine rO bF 2 rfl ?_
  refine ae rfl ?_
  refine oV (cN (v := .bool true) (af V.s4 rfl cx rfl) (by rw [hx.resolve_left h1])) ?_
  refine rO bF 6 rfl ?_
  refine oV (af V.gR rfl bY rfl) ?_
  refine rO bF 2 rfl ?_
  refine oV (af V.s4 rfl cx rfl) ?_
  refine rO bF 5 rfl ?_
  exact aj (aC rfl) ⟨rfl, rfl⟩ (Sl.Sub.trans ((bd (.cons bK (.cons bK .nil)) .refl (fun w0 h hh => dE (s := s) rfl hh)).trans (bd (aw (.cons bK (.cons bK .nil))) .refl (fun w0 h hh => fw (s := s) hh))) (sub (aw .nil) fS))
set_option maxHeartbeats 2000000 in
theorem Dg (b bl : Nat) (sz mo : Int) (B : List Int) (s : ad.St) (n : Int) (hl : B.length < 500000000) (hB : ak.az B) (hn : 1 ≤ n) (hok : ad.Ok B mo s) (hm : mo < 1000000000) (he : s.ended = false) (s2 : ad.St) (hlp : ad.Lp B mo s.out.length n s (.ok s2)) : aK Tryz.prog 147 [.pointer (some ⟨b, 0, none⟩), .int .i64 n] [MM b bl sz mo B s] (aR fun v G => v = .bool s2.ended ∧ G = [MM b bl sz mo B s2]) := by
 refine ax [(0, _), (1, _)] Tryz.func147 rfl Tryz.ntmps147 rfl rfl ?_
 intro w0 F
 have hro := hok.room
 refine gr dX (fun h hh => jZ hh) ?_
 rintro ⟨li, di⟩ _
 dsimp only
 simp only [List.cons_append, List.nil_append]
 refine gJ (fun h hh => iQ hh) ?_
 rintro ⟨po, co⟩ _
 dsimp only
 simp only [List.cons_append, List.nil_append]
 refine rT bF 2 rfl ?_
 refine eU rfl (cs := [_]) rfl rfl ?_
 intro b2
 refine eU rfl (cs := [_]) rfl rfl ?_
 intro b3
 refine rO bF 6 rfl ?_
 refine oV (af V.gR rfl bY rfl) ?_
 refine oV (cN (v := .bool false) (iS Tryz.underlying204 rfl rfl) rfl) ?_
 refine oV (aG rfl) ?_
 refine ae rfl ?_
 refine oV (af V.gR rfl bY rfl) ?_
 refine rO bF 2 rfl ?_
 refine ae rfl ?_
 refine oV (af V.dT rfl cx rfl) ?_
 refine ae rfl ?_
 refine oV (cN (v := .bool false) (iS Tryz.underlying219 rfl rfl) rfl) ?_
 refine rO bF 9 rfl ?_
 refine oV (af V.s3 rfl an rfl) ?_
 refine oV (aA (bD rfl rfl) (by omega)) ?_
 refine oV (aG rfl) ?_
 refine ae rfl ?_
 refine oV (af V.gR rfl bY rfl) ?_
 refine rO bF 2 rfl ?_
 refine ae rfl ?_
 refine oV (cN (v := .bool false) (af V.s4 rfl cx rfl) (by rw [he])) ?_
 refine rO bF 8 rfl ?_
 refine oV (af V.gR rfl bY rfl) ?_
 refine rO bF 2 rfl ?_
 refine oV (af V.eA rfl cx rfl) ?_
 refine oV (eM (ty' := 0) Tryz.underlying22 rfl) ?_
 refine cB V.z3 rfl ?_
 intro b5
 refine aQ (cn V.s3 rfl rfl rfl (by exact cZ) (by exact Nat.le_of_ble_eq_true rfl) rfl) ?_
 refine rO bF 3 rfl ?_
 refine bR (Sl.Sub.trans (bd (.cons eg (.cons eg .nil)) .refl (fun w0 h hh => dE (s := s) rfl hh)) (bd (aw (.cons eg (.cons eg .nil))) .refl (fun w0 h hh => fw (s := s) hh))) ?_
 refine bo ?_
 refine oV (zy (fs := []) (cs := [_, _, _]) rfl rfl) ?_
 refine ai (ET (f := 168) (cs := [.pointer (some ⟨b2, 0, none⟩), .pointer (some ⟨b5, 0, none⟩), .pointer (some ⟨b3, 0, none⟩)]) (R := fun G => G = [ao b2 204 [.pointer (some ⟨b, 0, none⟩)], ao b5 3 [.int .i64 (s.out.length : Int)], ao b3 3 [.int .i64 n], MM b bl sz mo B s2]) (aK.Q1 ((yw b2 b5 b3 b bl sz mo s.out.length n s (.ok s2) B hl hB hm (by omega) hok hlp).ok rfl)) V.Jm) V.Lb  rfl (.cons eg (.cons aE (.cons aE (aw .nil)))) rfl ?_
 rintro _ _ ⟨rfl, rfl⟩
 refine rO bF 7 rfl ?_
 refine oV (aA (bG rfl rfl) (by decide)) ?_
 refine rO bF 6 rfl ?_
 refine gr eg (fun h hh => jZ hh) ?_
 rintro ⟨li2, di2⟩ _
 dsimp only
 simp only [List.cons_append, List.nil_append]
 refine gJ (fun h hh => iQ hh) ?_
 rintro ⟨po2, co2⟩ _
 dsimp only
 simp only [List.cons_append, List.nil_append]
 refine bo ?_
 refine oV (af V.gR rfl jv rfl) ?_
 refine rO bF 2 rfl ?_
 refine oV (af V.s4 rfl an rfl) ?_
 refine rO bF 4 rfl ?_
 exact aj (aC rfl) ⟨rfl, rfl⟩ (Sl.Sub.trans ((bd (bp .nil) .refl (fun w0 h hh => dE (s := s2) rfl hh)).trans (bd (im .nil) .refl (fun w0 h hh => fw (s := s2) hh))) (sub (aw .nil) n4))
theorem Hb {b bl : Nat} {sz mo : Int} {w0 : World} {h : Hp} (hh : MX b bl sz mo w0 h) : ∃ i : Vx, True ∧ dq w0 [ao b 223 [.pointer (some ⟨bl, 0, none⟩), .int .i64 sz, .int .i64 mo, i.v3, i.v4, i.v5, i.v6, i.v7, i.v8, i.v9, i.v10, i.v11, i.v12]] h := hh
theorem n7 {b bl : Nat} {sz mo e : Int} {w0 : World} {h : Hp} (hh : MD b bl sz mo e w0 h) : ∃ i : Vx, True ∧ dq w0 [ao b 223 [.pointer (some ⟨bl, 0, none⟩), .int .i64 sz, .int .i64 mo, .slice none 0 0, .bool true, .int .i64 e, i.v6, i.v7, i.v8, i.v9, i.v10, i.v11, i.v12]] h := hh
set_option maxHeartbeats 2000000 in
theorem EU (b bl : Nat) (sz mo : Int) (B : List Int) (s : ad.St) (n : Int) (hl : B.length < 500000000) (hB : ak.az B) (hn : 1 ≤ n) (hok : ad.Ok B mo s) (hm : mo < 1000000000) (he : s.ended = false) (e : Int) (hE : e ≠ 0) (hlp : ad.Lp B mo s.out.length n s (.error e)) : aK Tryz.prog 147 [.pointer (some ⟨b, 0, none⟩), .int .i64 n] [MM b bl sz mo B s] (aR fun v G => v = .bool true ∧ G = [MD b bl sz mo e]) := by
 refine ax [(0, _), (1, _)] Tryz.func147 rfl Tryz.ntmps147 rfl rfl ?_
 intro w0 F
 have hro := hok.room
 refine gr dX (fun h hh => jZ hh) ?_
 rintro ⟨li, di⟩ _
 dsimp only
 simp only [List.cons_append, List.nil_append]
 refine gJ (fun h hh => iQ hh) ?_
 rintro ⟨po, co⟩ _
 dsimp only
 simp only [List.cons_append, List.nil_append]
 refine rT bF 2 rfl ?_
 refine eU rfl (cs := [_]) rfl rfl ?_
 intro b2
 refine eU rfl (cs := [_]) rfl rfl ?_
 intro b3
 refine rO bF 6 rfl ?_
 refine oV (af V.gR rfl bY rfl) ?_
 refine oV (cN (v := .bool false) (iS Tryz.underlying204 rfl rfl) rfl) ?_
 refine oV (aG rfl) ?_
 refine ae rfl ?_
 refine oV (af V.gR rfl bY rfl) ?_
 refine rO bF 2 rfl ?_
 refine ae rfl ?_
 refine oV (af V.dT rfl cx rfl) ?_
 refine ae rfl ?_
 refine oV (cN (v := .bool false) (iS Tryz.underlying219 rfl rfl) rfl) ?_
 refine rO bF 9 rfl ?_
 refine oV (af V.s3 rfl an rfl) ?_
 refine oV (aA (bD rfl rfl) (by omega)) ?_
 refine oV (aG rfl) ?_
 refine ae rfl ?_
 refine oV (af V.gR rfl bY rfl) ?_
 refine rO bF 2 rfl ?_
 refine ae rfl ?_
 refine oV (cN (v := .bool false) (af V.s4 rfl cx rfl) (by rw [he])) ?_
 refine rO bF 8 rfl ?_
 refine oV (af V.gR rfl bY rfl) ?_
 refine rO bF 2 rfl ?_
 refine oV (af V.eA rfl cx rfl) ?_
 refine oV (eM (ty' := 0) Tryz.underlying22 rfl) ?_
 refine cB V.z3 rfl ?_
 intro b5
 refine aQ (cn V.s3 rfl rfl rfl (by exact cZ) (by exact Nat.le_of_ble_eq_true rfl) rfl) ?_
 refine rO bF 3 rfl ?_
 refine bR (Sl.Sub.trans (bd (.cons eg (.cons eg .nil)) .refl (fun w0 h hh => dE (s := s) rfl hh)) (bd (aw (.cons eg (.cons eg .nil))) .refl (fun w0 h hh => fw (s := s) hh))) ?_
 refine bo ?_
 refine oV (zy (fs := []) (cs := [_, _, _]) rfl rfl) ?_
 refine ai (EG (f := 168) (cs := [.pointer (some ⟨b2, 0, none⟩), .pointer (some ⟨b5, 0, none⟩), .pointer (some ⟨b3, 0, none⟩)]) (R := fun G => G = [ao b2 204 [.pointer (some ⟨b, 0, none⟩)], ao b5 3 [.int .i64 (s.out.length : Int)], ao b3 3 [.int .i64 n], MX b bl sz mo]) ((yw b2 b5 b3 b bl sz mo s.out.length n s (.error e) B hl hB hm (by omega) hok hlp).err rfl) V.Jm) V.Lb  rfl (.cons eg (.cons aE (.cons aE (aw .nil)))) rfl ?_
 rintro _ _ ⟨rfl, rfl⟩
 refine rO bF 7 rfl ?_
 refine oV (aU (bG rfl rfl) hE) ?_
 refine rO bF 3 rfl ?_
 refine gr eg (fun h hh => Hb hh) ?_
 rintro ⟨v3, v4, v5, v6, v7, v8, v9, v10, v11, v12⟩ _
 dsimp only
 simp only [List.cons_append, List.nil_append]
 refine wN [pz 0 [] [2], pz 0 [] [2], pz 0 [] [2], pz 0 [] [6], pz 1 [0] [], pz 17 [4] [], pz 49 [5] [], pz 123 [1] [], pz 251 [7] [], pz 507 [8, 3] [], pz 1023 [2] [], pz 2047 [10] [], pz 4095 [11] []] [⟨fun y => ao b 223 [.pointer (some ⟨bl, 0, none⟩), .int .i64 sz, .int .i64 mo, v3, v4, v5, v6, v7, v8, v9, v10, v11, v12], none, some 6, []⟩, ⟨fun y => ao b2 204 [.pointer (some ⟨b, 0, none⟩)], none, none, [0, 1, 2]⟩, ⟨fun y => ao b5 3 [.int .i64 (s.out.length : Int)], none, none, []⟩, ⟨fun y => ao b3 3 [.int .i64 n], none, none, []⟩, ⟨fun y => ao b 223 [.pointer (some ⟨bl, 0, none⟩), .int .i64 sz, .int .i64 mo, v3, .bool true, v5, v6, v7, v8, v9, v10, v11, v12], some 6, some 9, []⟩, ⟨fun y => ao b 223 [.pointer (some ⟨bl, 0, none⟩), .int .i64 sz, .int .i64 mo, v3, .bool true, .int .i64 e, v6, v7, v8, v9, v10, v11, v12], some 9, some 12, []⟩, ⟨fun y => ao b 223 [.pointer (some ⟨bl, 0, none⟩), .int .i64 sz, .int .i64 mo, .slice none 0 0, .bool true, .int .i64 e, v6, v7, v8, v9, v10, v11, v12], some 12, none, []⟩] F V.mixed ?_
 iterate 3 refine nR (fun y FF hA => af V.gR rfl an rfl) ?_
 refine nM ?_
 refine nN ?_
 refine nG V.xS ?_
 refine nE (fun y FF hA => dp (cn V.s4 rfl rfl rfl (by exact cZ) (by exact Nat.le_of_ble_eq_true rfl) rfl) ⟨rfl, .refl _⟩) ?_
 refine nN ?_
 refine nG V.Jr ?_
 refine nE (fun y FF hA => dp (cn V.rH rfl rfl rfl (by exact cZ) (by exact Nat.le_of_ble_eq_true rfl) rfl) ⟨rfl, .refl _⟩) ?_
 refine nN ?_
 refine nG V.kV ?_
 refine nE (fun y FF hA => dp (cn V.eA rfl rfl rfl (by exact cZ) (by exact Nat.le_of_ble_eq_true rfl) rfl) ⟨rfl, .refl _⟩) ?_
 refine aX ?_
 intro y hA
 clear hA
 refine bu ?_
 refine cy _ (.cons (d := 2) rfl (.nil _)) ?_
 refine bR (M := ao b2 204 [.pointer (some ⟨b, 0, none⟩)] :: ao b5 3 [.int .i64 (s.out.length : Int)] :: ao b3 3 [.int .i64 n] :: ao b 223 [.pointer (some ⟨bl, 0, none⟩), .int .i64 sz, .int .i64 mo, .slice none 0 0, .bool true, .int .i64 e, v6, v7, v8, v9, v10, v11, v12] :: F) (fun _ _ h => h) ?_
 refine rC bF 2 rfl ?_
 refine oV (af V.gR rfl an rfl) ?_
 refine rO bF 2 rfl ?_
 refine oV (af V.s4 rfl eL rfl) ?_
 refine rO bF 4 rfl ?_
 exact aj (aC rfl) ⟨rfl, rfl⟩ (bd (.cons eg .nil) n4 (fun w0 h hh => kr hh))
set_option maxHeartbeats 2000000 in
theorem EC (b bl : Nat) (sz mo : Int) (e : Int) (n : Int) : aK Tryz.prog 147 [.pointer (some ⟨b, 0, none⟩), .int .i64 n] [MD b bl sz mo e] (aR fun v G => v = .bool true ∧ G = [MD b bl sz mo e]) := by
 refine ax [(0, _), (1, _)] Tryz.func147 rfl Tryz.ntmps147 rfl rfl ?_
 intro w0 F
 refine gr dX (fun h hh => n7 hh) ?_
 rintro ⟨v3, v4, v5, v6, v7, v8, v9, v10, v11, v12⟩ _
 dsimp only
 simp only [List.cons_append, List.nil_append]
 refine rT bF 2 rfl ?_
 refine eU rfl (cs := [_]) rfl rfl ?_
 intro b2
 refine eU rfl (cs := [_]) rfl rfl ?_
 intro b3
 refine rO bF 6 rfl ?_
 refine oV (af V.gR rfl bY rfl) ?_
 refine oV (cN (v := .bool false) (iS Tryz.underlying204 rfl rfl) rfl) ?_
 refine oV (aG rfl) ?_
 refine ae rfl ?_
 refine oV (af V.gR rfl bY rfl) ?_
 refine rO bF 2 rfl ?_
 refine ae rfl ?_
 refine oV (af V.dT rfl cx rfl) ?_
 refine ae rfl ?_
 refine oV (cN (v := .bool false) (iS Tryz.underlying219 rfl rfl) rfl) ?_
 refine rO bF 6 rfl ?_
 rcases (Classical.em (n < 1)) with h1 | h1
 ·refine rC bF 3 rfl ?_
  refine oV (af V.s3 rfl an rfl) ?_
  refine oV (aU (bD rfl rfl) h1) ?_
  refine rO bF 11 rfl ?_
  refine oV (af V.gR rfl bY rfl) ?_
  refine rO bF 2 rfl ?_
  refine oV (af V.s4 rfl cx rfl) ?_
  refine rO bF 5 rfl ?_
  exact aj (aC rfl) ⟨rfl, rfl⟩ (bd (.cons bK .nil) fS (fun w0 h hh => kr hh))
 ·refine rC bF 3 rfl ?_
  refine oV (af V.s3 rfl an rfl) ?_
  refine oV (aA (bD rfl rfl) h1) ?_
  refine oV (aG rfl) ?_
  refine ae rfl ?_
  refine oV (af V.gR rfl bY rfl) ?_
  refine rO bF 2 rfl ?_
  refine ae rfl ?_
  refine oV (af V.s4 rfl cx rfl) ?_
  refine rO bF 6 rfl ?_
  refine oV (af V.gR rfl bY rfl) ?_
  refine rO bF 2 rfl ?_
  refine oV (af V.s4 rfl cx rfl) ?_
  refine rO bF 5 rfl ?_
  exact aj (aC rfl) ⟨rfl, rfl⟩ (bd (.cons bK .nil) fS (fun w0 h hh => kr hh))
theorem pT (b bl : Nat) (sz mo : Int) (B : List Int) (s : ad.St) : aK Tryz.prog 146 [.pointer (some ⟨b, 0, none⟩)] [MM b bl sz mo B s] (aR fun v G => v = .bool s.ended ∧ G = [MM b bl sz mo B s]) := by
 refine ax [(0, _)] Tryz.func146 rfl Tryz.ntmps146 rfl rfl ?_
 intro w0 F
 refine gr dX (fun h hh => jZ hh) ?_
 rintro ⟨li, di⟩ _
 dsimp only
 simp only [List.cons_append, List.nil_append]
 refine gJ (fun h hh => iQ hh) ?_
 rintro ⟨po, co⟩ _
 dsimp only
 simp only [List.cons_append, List.nil_append]
 refine rT bF 8 rfl ?_
 refine oV (cN (v := .bool true) (yY Tryz.underlying204 rfl rfl) rfl) ?_
 refine rO bF 4 rfl ?_
 refine ae rfl ?_
 refine oV (af V.s4 rfl an rfl) ?_
 refine rO bF 5 rfl ?_
 exact aj (aC rfl) ⟨rfl, rfl⟩ (Sl.Sub.trans ((bd (bp .nil) .refl (fun w0 h hh => dE (s := s) rfl hh)).trans (bd (im .nil) .refl (fun w0 h hh => fw (s := s) hh))) (sub (aw .nil) au))
theorem ra (b bl : Nat) (sz mo : Int) (e : Int) : aK Tryz.prog 146 [.pointer (some ⟨b, 0, none⟩)] [MD b bl sz mo e] (aR fun v G => v = .bool true ∧ G = [MD b bl sz mo e]) := by
 refine ax [(0, _)] Tryz.func146 rfl Tryz.ntmps146 rfl rfl ?_
 intro w0 F
 refine gr dX (fun h hh => n7 hh) ?_
 rintro ⟨v3, v4, v5, v6, v7, v8, v9, v10, v11, v12⟩ _
 dsimp only
 simp only [List.cons_append, List.nil_append]
 refine rT bF 8 rfl ?_
 refine oV (cN (v := .bool true) (yY Tryz.underlying204 rfl rfl) rfl) ?_
 refine rO bF 4 rfl ?_
 refine ae rfl ?_
 refine oV (af V.s4 rfl an rfl) ?_
 refine rO bF 5 rfl ?_
 exact aj (aC rfl) ⟨rfl, rfl⟩ (bd (aw .nil) au (fun w0 h hh => kr hh))
theorem N0 (b bl : Nat) (sz mo : Int) (B : List Int) (s : ad.St) : aK Tryz.prog 150 [.pointer (some ⟨b, 0, none⟩)] [MM b bl sz mo B s] (aR fun v G => v = .int .i64 0 ∧ G = [MM b bl sz mo B s]) := by
 refine ax [(0, _)] Tryz.func150 rfl Tryz.ntmps150 rfl rfl ?_
 intro w0 F
 refine gr dX (fun h hh => jZ hh) ?_
 rintro ⟨li, di⟩ _
 dsimp only
 simp only [List.cons_append, List.nil_append]
 refine gJ (fun h hh => iQ hh) ?_
 rintro ⟨po, co⟩ _
 dsimp only
 simp only [List.cons_append, List.nil_append]
 refine rT bF 9 rfl ?_
 refine oV (cN (v := .bool false) (iS Tryz.underlying204 rfl rfl) rfl) ?_
 refine rO bF 10 rfl ?_
 refine oV (af V.rH rfl an rfl) ?_
 refine rO bF 4 rfl ?_
 exact aj (aC rfl) ⟨rfl, rfl⟩ (Sl.Sub.trans ((bd (bp .nil) .refl (fun w0 h hh => dE (s := s) rfl hh)).trans (bd (im .nil) .refl (fun w0 h hh => fw (s := s) hh))) (sub (aw .nil) au))
theorem CT (b bl : Nat) (sz mo : Int) (e : Int) : aK Tryz.prog 150 [.pointer (some ⟨b, 0, none⟩)] [MD b bl sz mo e] (aR fun v G => v = .int .i64 e ∧ G = [MD b bl sz mo e]) := by
 refine ax [(0, _)] Tryz.func150 rfl Tryz.ntmps150 rfl rfl ?_
 intro w0 F
 refine gr dX (fun h hh => n7 hh) ?_
 rintro ⟨v3, v4, v5, v6, v7, v8, v9, v10, v11, v12⟩ _
 dsimp only
 simp only [List.cons_append, List.nil_append]
 refine rT bF 9 rfl ?_
 refine oV (cN (v := .bool false) (iS Tryz.underlying204 rfl rfl) rfl) ?_
 refine rO bF 10 rfl ?_
 refine oV (af V.rH rfl an rfl) ?_
 refine rO bF 4 rfl ?_
 exact aj (aC rfl) ⟨rfl, rfl⟩ (bd (aw .nil) au (fun w0 h hh => kr hh))
theorem GX (b bl : Nat) (sz mo : Int) (B : List Int) (s : ad.St) (he : s.ended = false) : aK Tryz.prog 148 [.pointer (some ⟨b, 0, none⟩)] [MM b bl sz mo B s] (aR fun v G => v = .slice none 0 0 ∧ G = [MM b bl sz mo B s]) := by
 refine ax [(0, _)] Tryz.func148 rfl Tryz.ntmps148 rfl rfl ?_
 intro w0 F
 refine rT bF 9 rfl ?_
 refine ai (pT b bl sz mo B s) V.qv  rfl (aw .nil) rfl ?_
 rintro _ _ ⟨rfl, rfl⟩
 rw [he]
 refine rO bF 11 rfl ?_
 exact aj (aC rfl) ⟨rfl, rfl⟩ (sub (aw .nil) au)
set_option maxHeartbeats 1000000 in
theorem Di (b bl : Nat) (sz mo : Int) (B : List Int) (s : ad.St) (hok : ad.Ok B mo s) (hm : mo < 500000000) (he : s.ended = true) : aK Tryz.prog 148 [.pointer (some ⟨b, 0, none⟩)] [MM b bl sz mo B s] (aR fun v G => ∃ q c, v = .slice q s.out.length c ∧ G = [Row U5 q s.out.length c s.out, MM b bl sz mo B s]) := by
 refine ax [(0, _)] Tryz.func148 rfl Tryz.ntmps148 rfl rfl ?_
 intro w0 F
 refine rT bF 9 rfl ?_
 refine ai (pT b bl sz mo B s) V.qv  rfl (aw .nil) rfl ?_
 rintro _ _ ⟨rfl, rfl⟩
 rw [he]
 refine rO bF 7 rfl ?_
 have hro := hok.room
 refine gr dX (fun h hh => jZ hh) ?_
 rintro ⟨li, di⟩ _
 dsimp only
 simp only [List.cons_append, List.nil_append]
 refine gJ (fun h hh => iQ hh) ?_
 rintro ⟨po, co⟩ _
 dsimp only
 simp only [List.cons_append, List.nil_append]
 refine rC bF 4 rfl ?_
 refine oV (af V.eA rfl an rfl) ?_
 refine ai (ox po co s.out (Row U5 po s.out.length co s.out) (fun _ _ hh => hh.rd) (by omega)) V.zc  rfl (.cons aE .nil) rfl ?_
 rintro _ _ ⟨q10, c10, rfl, rfl⟩
 refine rO bF 4 rfl ?_
 exact aj (aC rfl) ⟨q10, c10, rfl, rfl⟩ (Sl.Sub.trans ((bd (.cons bK (.cons aE .nil)) .refl (fun w0 h hh => dE (s := s) rfl hh)).trans (bd (aw (.cons aE (.cons aE .nil))) .refl (fun w0 h hh => fw (s := s) hh))) (sub (.cons aE (aw .nil)) au))
set_option maxHeartbeats 1000000 in
theorem yz (b bl : Nat) (sz mo : Int) (e : Int) : aK Tryz.prog 148 [.pointer (some ⟨b, 0, none⟩)] [MD b bl sz mo e] (aR fun v G => ∃ q c, v = .slice q 0 c ∧ G = [Row U5 q 0 c [], MD b bl sz mo e]) := by
 refine ax [(0, _)] Tryz.func148 rfl Tryz.ntmps148 rfl rfl ?_
 intro w0 F
 refine rT bF 9 rfl ?_
 refine ai (ra b bl sz mo e) V.qv  rfl (aw .nil) rfl ?_
 rintro _ _ ⟨rfl, rfl⟩
 refine rO bF 7 rfl ?_
 refine gr dX (fun h hh => n7 hh) ?_
 rintro ⟨v3, v4, v5, v6, v7, v8, v9, v10, v11, v12⟩ _
 dsimp only
 simp only [List.cons_append, List.nil_append]
 refine hH (Row U5 none 0 0 []) (Row.nil _ _ _) ?_
 refine rC bF 4 rfl ?_
 refine oV (af V.eA rfl bY rfl) ?_
 refine ai (ox none 0 [] (Row U5 none 0 0 []) (fun _ _ hh => hh.rd) (by decide)) V.zc  rfl (aw .nil) rfl ?_
 rintro _ _ ⟨q10, c10, rfl, rfl⟩
 refine rO bF 4 rfl ?_
 exact aj (aC rfl) ⟨q10, c10, rfl, rfl⟩ (Sl.Sub.trans (bd (.cons bK .nil) .refl (fun w0 h hh => kr hh)) (sub (.cons aE (aw .nil)) cG))
theorem Eg (b bl : Nat) (sz mo : Int) (B : List Int) (s : ad.St) (he : s.ended = false) : aK Tryz.prog 149 [.pointer (some ⟨b, 0, none⟩)] [MM b bl sz mo B s] (aR fun v G => v = .int .i64 0 ∧ G = [MM b bl sz mo B s]) := by
 refine ax [(0, _)] Tryz.func149 rfl Tryz.ntmps149 rfl rfl ?_
 intro w0 F
 refine rT bF 9 rfl ?_
 refine ai (pT b bl sz mo B s) V.qv  rfl (aw .nil) rfl ?_
 rintro _ _ ⟨rfl, rfl⟩
 rw [he]
 refine rO bF 18 rfl ?_
 exact aj (aC rfl) ⟨rfl, rfl⟩ (sub (aw .nil) au)
theorem zm (b bl : Nat) (sz mo : Int) (e : Int) (hE : e ≠ 0) : aK Tryz.prog 149 [.pointer (some ⟨b, 0, none⟩)] [MD b bl sz mo e] (aR fun v G => v = .int .i64 0 ∧ G = [MD b bl sz mo e]) := by
 refine ax [(0, _)] Tryz.func149 rfl Tryz.ntmps149 rfl rfl ?_
 intro w0 F
 refine rT bF 9 rfl ?_
 refine ai (ra b bl sz mo e) V.qv  rfl (aw .nil) rfl ?_
 rintro _ _ ⟨rfl, rfl⟩
 refine AT dX (fun h hh => n7 hh) ?_
 rintro ⟨v3, v4, v5, v6, v7, v8, v9, v10, v11, v12⟩ _
 dsimp only
 simp only [List.cons_append, List.nil_append]
 refine rO bF 5 rfl ?_
 refine ae rfl ?_
 refine oV (af V.rH rfl an rfl) ?_
 refine ae rfl ?_
 refine oV (aU (bG rfl rfl) hE) ?_
 refine rO bF 11 rfl ?_
 exact aj (aC rfl) ⟨rfl, rfl⟩ (bd (aw .nil) au (fun w0 h hh => kr hh))
set_option maxHeartbeats 1000000 in
theorem Bn (b bl : Nat) (mo : Int) (B : List Int) (s : ad.St) (hl : B.length < 500000000) (hok : ad.Ok B mo s) (hm : mo < 1000000000) (he : s.ended = true) : aK Tryz.prog 149 [.pointer (some ⟨b, 0, none⟩)] [MM b bl (B.length : Int) mo B s] (aR fun v G => v = .int .i64 (((s.at_ + 7) / 8 : Nat) : Int) ∧ G = [MM b bl (B.length : Int) mo B s]) := by
 refine ax [(0, _)] Tryz.func149 rfl Tryz.ntmps149 rfl rfl ?_
 intro w0 F
 refine rT bF 9 rfl ?_
 refine ai (pT b bl (B.length : Int) mo B s) V.qv  rfl (aw .nil) rfl ?_
 rintro _ _ ⟨rfl, rfl⟩
 rw [he]
 refine AT dX (fun h hh => jZ hh) ?_
 rintro ⟨li, di⟩ _
 dsimp only
 simp only [List.cons_append, List.nil_append]
 refine Fe (fun h hh => iQ hh) ?_
 rintro ⟨po, co⟩ _
 dsimp only
 simp only [List.cons_append, List.nil_append]
 have hat := hok.at_
 refine rO bF 5 rfl ?_
 refine ae rfl ?_
 refine oV (af V.rH rfl an rfl) ?_
 refine ae rfl ?_
 refine oV (aA (bG rfl rfl) (by decide)) ?_
 refine rO bF 7 rfl ?_
 refine wN [pz 0 [] [0], pz 1 [0] [], pz 3 [1] [], pz 7 [2] [], pz 0 [] [0], pz 16 [4] [], pz 48 [5] [], pz 112 [6] [], pz 240 [7] [], pz 496 [8] [], pz 1023 [3, 9] [], pz 2047 [10] []] [⟨fun y => ao b 223 [.pointer (some ⟨bl, 0, none⟩), .int .i64 (B.length : Int), .int .i64 mo, .slice po s.out.length co, .bool s.ended, .int .i64 0, .int .i64 s.kind, .int .i64 (s.left : Int), .bool s.last, li, di, .int .i64 (s.aB : Int), .int .i64 (s.cE : Int)], none, none, [3, 7]⟩, ⟨fun y => Row U5 po s.out.length co s.out, none, none, []⟩, ⟨fun y => LW bl B s.at_ [] 0, none, some 8, []⟩, ⟨fun y => CD li di s, none, none, []⟩, ⟨fun y => LW bl B s.at_ [] 0, some 8, none, []⟩] F V.mixed ?_
 refine nM ?_
 refine nN ?_
 refine nG V.Lt ?_
 refine nR (fun y FF hA => af V.s3 rfl an rfl) ?_
 refine nM ?_
 refine nN ?_
 refine nG V.eK ?_
 refine nR (fun y FF hA => af V.dT rfl an rfl) ?_
 refine nE (fun y FF hA => bM (Post := [LW bl B s.at_ [] 0]) (Jz bl B s.at_ [] 0 hl hok.at_) V.P9 rfl (aw .nil) (fun v G h => by rcases h with ⟨rfl, rfl⟩; exact ⟨rfl, .refl _⟩)) ?_
 refine nV (fun y hA L => fZ rfl rfl (by omega) (jO (by omega) (by omega) (by omega))) ?_
 refine nV (fun y hA L => gp rfl rfl wI) ?_
 refine nA ?_
 refine aX ?_
 intro y hA
 clear hA
 refine bu ?_
 refine cy _ (.cons (d := 2) rfl (.nil _)) ?_
 refine bR (M := ao b 223 [.pointer (some ⟨bl, 0, none⟩), .int .i64 (B.length : Int), .int .i64 mo, .slice po s.out.length co, .bool s.ended, .int .i64 0, .int .i64 s.kind, .int .i64 (s.left : Int), .bool s.last, li, di, .int .i64 (s.aB : Int), .int .i64 (s.cE : Int)] :: Row U5 po s.out.length co s.out :: CD li di s :: LW bl B s.at_ [] 0 :: F) (fun _ _ h => h) ?_
 refine rC bF 1 rfl ?_
 rw [show (B.length : Int) - (8 * (B.length : Int) - (s.at_ : Int)) / 8 = (((s.at_ + 7) / 8 : Nat) : Int) from by omega]
 exact aj (aC rfl) ⟨rfl, rfl⟩ (Sl.Sub.trans ((bd (bp .nil) .refl (fun w0 h hh => dE (s := s) rfl hh)).trans (bd (aw (.cons aE (.cons dX .nil))) .refl (fun w0 h hh => fw (s := s) hh))) (sub (aw .nil) au))
end Go.Proofs.YtmaiakpjgomnpaaGreat
namespace Go.Proofs.YtmaiakpjgomnpaaGreat
open Go.Sl 
theorem fy : dC Tryz.prog ⟨[22], [(223, 4, 4), (223, 5, 5)]⟩ = true := by kernel_rfl
attribute [local irreducible] ag.cu ag.tk ag.ord ag.cQ ag.words ag.dj ad.iM ad.dh ad.dI ad.ew ad.hL ad.hD ad.hC ad.fE ad.told ad.gf ad.js ad.rep ad.ft ad.eJ ad.sym ad.dL ak.aV ad.fb ad.dR ad.one ad.fa
set_option maxHeartbeats 1000000 in
theorem ND (p : Option Addr) (cap : Nat) (B : List Int) (R : ab) (hR : ∀ w0 h, R w0 h → aS U5 p B.length B w0 h) (hl : B.length < 500000000) (mo : Int) (hm : 0 ≤ mo) : aK Tryz.prog 145 [.slice p B.length cap, .int .i64 mo] [R] (aR fun v G => ∃ b bl, v = .pointer (some ⟨b, 0, none⟩) ∧ G = [MM b bl (B.length : Int) mo B ad.start, R]) := by
 refine ax [(0, _), (1, _)] Tryz.func145 rfl Tryz.ntmps145 rfl rfl ?_
 intro w0 F
 refine rT fy 8 rfl ?_
 refine ai (xk p cap B R hR hl) V.KE  rfl (aw .nil) rfl ?_
 rintro _ _ ⟨bl7, rfl, rfl⟩
 refine rO fy 3 rfl ?_
 refine oV (bV V.FL V.KR rfl (cs := [_, _, _, _, _, _, _, _, _, _, _, _, _]) rfl) ?_
 refine eU rfl (cs := [_, _, _, _, _, _, _, _, _, _, _, _, _]) rfl rfl ?_
 intro b12
 refine rO fy 7 rfl ?_
 refine oV (aA (bD rfl rfl) (by omega)) ?_
 refine rO fy 6 rfl ?_
 refine hH (Row U5 none 0 0 []) (Row.nil _ _ _) ?_
 refine rC fy 6 rfl ?_
 exact aj (aC rfl) ⟨b12, bl7, rfl, rfl⟩ (Sl.Sub.trans (Sl.Sub.trans (bd (.cons aE (aw .nil)) .refl (fun w0 h hh => dE (s := ad.start) (li := .pointer none) (di := .pointer none) rfl hh)) (bd (bp .nil) .refl (fun w0 h hh => nw (s := ad.start) (by decide) hh))) (sub (bp .nil) au))
set_option maxHeartbeats 1000000 in
theorem GW (p : Option Addr) (cap : Nat) (B : List Int) (R : ab) (hR : ∀ w0 h, R w0 h → aS U5 p B.length B w0 h) (hl : B.length < 500000000) (mo : Int) (hm : mo < 0) : aK Tryz.prog 145 [.slice p B.length cap, .int .i64 mo] [R] (aR fun v G => ∃ b bl, v = .pointer (some ⟨b, 0, none⟩) ∧ G = [MD b bl (B.length : Int) mo 1, R]) := by
 refine ax [(0, _), (1, _)] Tryz.func145 rfl Tryz.ntmps145 rfl rfl ?_
 intro w0 F
 refine rT fy 8 rfl ?_
 refine ai (xk p cap B R hR hl) V.KE  rfl (aw .nil) rfl ?_
 rintro _ _ ⟨bl7, rfl, rfl⟩
 refine rO fy 3 rfl ?_
 refine oV (bV V.FL V.KR rfl (cs := [_, _, _, _, _, _, _, _, _, _, _, _, _]) rfl) ?_
 refine eU rfl (cs := [_, _, _, _, _, _, _, _, _, _, _, _, _]) rfl rfl ?_
 intro b12
 refine rO fy 7 rfl ?_
 refine oV (aU (bD rfl rfl) (by omega)) ?_
 refine rO fy 8 rfl ?_
 refine aQ (cn V.s4 rfl rfl rfl (by exact cZ) (by exact Nat.le_of_ble_eq_true rfl) rfl) ?_
 refine rO fy 2 rfl ?_
 refine aQ (cn V.rH rfl rfl rfl (by exact cZ) (by exact Nat.le_of_ble_eq_true rfl) rfl) ?_
 refine rO fy 9 rfl ?_
 exact aj (aC rfl) ⟨b12, bl7, rfl, rfl⟩ (Sl.Sub.trans (bd (aw .nil) .refl (fun w0 h hh => kr hh)) (sub (aw (.cons aE .nil)) cG))
theorem aK.NP {P : Program} {f : FuncId} {args : List Value} {Pre Gs : List ab} {v0 : Value} {A : ab} (h : aK P f args Pre (aR fun v G => v = v0 ∧ G = Gs)) (hA : ∀ w0, A w0 (fun _ => none)) : aK P f args Pre (aR fun v G => v = v0 ∧ G = A :: Gs) := fun w0 F w hi => (h w0 F w hi).mono fun e w' ⟨G, h1, v, h2, h3, h4⟩ => by
 subst h2; subst h3; subst h4
 exact ⟨A :: G, h1.w7 (hA w0), _, rfl, rfl, rfl⟩
section
variable (b bl : Nat) (mo : Int) (B : List Int) (r : ad.Jt)
theorem Hf (sz : Int) : aK Tryz.prog 146 [.pointer (some ⟨b, 0, none⟩)] [MJ b bl sz mo B r] (aR fun v G => v = .bool (ad.kJ r) ∧ G = [MJ b bl sz mo B r]) := by
 cases r with
 | ok s => exact pT b bl sz mo B s
 | error e => exact ra b bl sz mo e
theorem Jw (sz : Int) : aK Tryz.prog 150 [.pointer (some ⟨b, 0, none⟩)] [MJ b bl sz mo B r] (aR fun v G => v = .int .i64 (ad.As r) ∧ G = [MJ b bl sz mo B r]) := by
 cases r with
 | ok s => exact N0 b bl sz mo B s
 | error e => exact CT b bl sz mo e
theorem Ie (hl : B.length < 500000000) (hm : mo < 500000000) (hok : ad.uU B mo r) : aK Tryz.prog 149 [.pointer (some ⟨b, 0, none⟩)] [MJ b bl (B.length : Int) mo B r] (aR fun v G => v = .int .i64 (ad.rv r) ∧ G = [MJ b bl (B.length : Int) mo B r]) := by
 cases r with
 | ok s =>
  cases he : s.ended with
  | true => rw [show ad.rv (.ok s) = (((s.at_ + 7) / 8 : Nat) : Int) from if_pos he]; exact Bn b bl mo B s hl hok (by omega) he
  | false => rw [show ad.rv (.ok s) = 0 from if_neg (by rw [he]; decide)]; exact Eg b bl (B.length : Int) mo B s he
 | error e => exact zm b bl (B.length : Int) mo e hok
theorem Mh (sz : Int) (hm : mo < 500000000) (hok : ad.uU B mo r) : aK Tryz.prog 148 [.pointer (some ⟨b, 0, none⟩)] [MJ b bl sz mo B r] (aR fun v G => ∃ q c, v = .slice q (ad.qG r).length c ∧ G = [Row U5 q (ad.qG r).length c (ad.qG r), MJ b bl sz mo B r]) := by
 cases r with
 | ok s =>
  cases he : s.ended with
  | true => rw [show ad.qG (.ok s) = s.out from if_pos he]; exact Di b bl sz mo B s hok hm he
  | false => rw [show ad.qG (.ok s) = [] from if_neg (by rw [he]; decide)]; exact (aK.NP (GX b bl sz mo B s he) (A := Row U5 none 0 0 []) (fun w0 => Row.nil U5 w0 _)).mono fun e G ⟨v, h1, h2, h3⟩ => ⟨v, h1, none, 0, h2, h3⟩
 | error e => exact yz b bl sz mo e
theorem Hg (sz n : Int) (r' : ad.Jt) (hl : B.length < 500000000) (hB : ak.az B) (hm : mo < 500000000) (hok : ad.uU B mo r) (hst : ad.Ae B mo n r r') : aK Tryz.prog 147 [.pointer (some ⟨b, 0, none⟩), .int .i64 n] [MJ b bl sz mo B r] (aR fun v G => v = .bool (ad.kJ r') ∧ G = [MJ b bl sz mo B r']) := by
 rcases hst with ⟨hx, rfl⟩ | ⟨hn1, s, rfl, he, hl2⟩
 ·cases r' with
  | ok s => exact DJ b bl sz mo B s n hok (by omega) hx
  | error e => exact EC b bl sz mo e n
 ·cases r' with
  | ok s2 => exact Dg b bl sz mo B s n hl hB hn1 hok (by omega) he s2 hl2
  | error e => exact EU b bl sz mo B s n hl hB hn1 hok (by omega) he e (ad.FW hl2 rfl) hl2
end
attribute [local irreducible] ad.qG ad.rv ad.As ad.kJ ad.Ou
set_option maxHeartbeats 1000000 in
theorem Hu (p : Option Addr) (cap : Nat) (B : List Int) (R : ab) (hR : ∀ w0 h, R w0 h → aS U5 p B.length B w0 h) (hl : B.length < 500000000) (hB : ak.az B) (mo : Int) (hm : 0 ≤ mo ∧ mo < 500000000) (q : List Int × Int × Int) (hq : ad.jU B mo q) : aK Tryz.prog 119 [.slice p B.length cap, .int .i64 mo] [R] (aR fun v G => ∃ qq cq, v = .tuple #[.slice qq q.1.length cq, .int .i64 q.2.1, .int .i64 q.2.2] ∧ G = [Row U5 qq q.1.length cq q.1, R]) := by
 refine ax [(0, _), (1, _)] Tryz.func119 rfl Tryz.ntmps119 rfl rfl ?_
 intro w0 F
 refine rT fy 11 rfl ?_
 refine ai (ND p cap B R hR hl mo hm.1) V.Mt  rfl (aw .nil) rfl ?_
 rintro _ _ ⟨b10, bl7, rfl, rfl⟩
 refine rO fy 5 rfl ?_
 refine bR (M := MJ b10 bl7 (B.length : Int) mo B (.ok ad.start) :: R :: F) (fun _ _ h => h) ?_
 refine dV (fun (r : ad.Jt) => [(7, .pointer (some ⟨b10, 0, none⟩))]) (fun (r : ad.Jt) => MJ b10 bl7 (B.length : Int) mo B r :: R :: F) (fun (r : ad.Jt) => ad.uU B mo r ∧ ad.Bo B mo ad.start r) (fun (r : ad.Jt) => ad.CF B r) (i1 (.ok ad.start) ?_ (kR ln) (sub (bp .nil) au)) ?_
 ·exact ⟨ad.oP hm.1, ad.iA.refl _ _ _⟩
 intro r
 rintro ⟨hok, hat⟩
 refine rL fy 4 rfl ?_
 refine ai (Hf b10 bl7 mo B r (B.length : Int)) V.qv  rfl (aw .nil) rfl ?_
 rintro _ _ ⟨rfl, rfl⟩
 refine oV (l8 rfl) ?_
 refine rO fy 2 rfl ?_
 refine qg rfl (fun h13 => ?_) (fun h13 => ?_)
 ·refine rC fy 3 rfl ?_
  have he : ad.kJ r = false := by simpa using h13
  obtain ⟨r2, hst⟩ := ad.Ep hB hok 1048576
  have hgj := ad.Az hB hok hat hst
  refine rC fy 2 rfl ?_
  refine ai (Hg b10 bl7 mo B r (B.length : Int) 1048576 r2 hl hB hm.2 hok hst) V.O4  rfl (aw .nil) rfl ?_
  rintro _ _ ⟨rfl, rfl⟩
  refine rO fy 2 rfl ?_
  refine j1 (r2) ?_ (kR ln) (sub (bp .nil) au)
  exact ⟨⟨hgj.ok, hgj.at_⟩, hgj.less he (by decide)⟩
 ·refine rC fy 6 rfl ?_
  have he : ad.kJ r = true := by simpa using h13
  obtain rfl := hq.AO (ad.HG hm.1 hat he)
  refine rC fy 2 rfl ?_
  refine ai (Mh b10 bl7 mo B r (B.length : Int) hm.2 hok) V.LO  rfl (aw .nil) rfl ?_
  rintro _ _ ⟨q17, c17, rfl, rfl⟩
  refine oV (aG rfl) ?_
  refine ai (Ie b10 bl7 mo B r hl hm.2 hok) V.L9  rfl (.cons aE .nil) rfl ?_
  rintro _ _ ⟨rfl, rfl⟩
  refine oV (aG rfl) ?_
  refine ai (Jw b10 bl7 mo B r (B.length : Int)) V.LH  rfl (aw .nil) rfl ?_
  rintro _ _ ⟨rfl, rfl⟩
  refine rO fy 6 rfl ?_
  exact aj (LV rfl rfl rfl) ⟨q17, c17, rfl, rfl⟩ (sub (.cons aE (.cons aE .nil)) cG)
set_option maxHeartbeats 1000000 in
theorem H8 (p : Option Addr) (cap : Nat) (B : List Int) (R : ab) (hR : ∀ w0 h, R w0 h → aS U5 p B.length B w0 h) (hl : B.length < 500000000) (mo : Int) (hm : mo < 0) (q : List Int × Int × Int) (hq : ad.jU B mo q) : aK Tryz.prog 119 [.slice p B.length cap, .int .i64 mo] [R] (aR fun v G => ∃ qq cq, v = .tuple #[.slice qq q.1.length cq, .int .i64 q.2.1, .int .i64 q.2.2] ∧ G = [Row U5 qq q.1.length cq q.1, R]) := by
 obtain rfl := hq.AO (.inl ⟨hm, rfl⟩)
 refine ax [(0, _), (1, _)] Tryz.func119 rfl Tryz.ntmps119 rfl rfl ?_
 intro w0 F
 refine rT fy 11 rfl ?_
 refine ai (GW p cap B R hR hl mo hm) V.Mt  rfl (aw .nil) rfl ?_
 rintro _ _ ⟨b10, bl7, rfl, rfl⟩
 refine rO fy 5 rfl ?_
 refine dV (fun (z : Nat) => [(7, .pointer (some ⟨b10, 0, none⟩))]) (fun (z : Nat) => MD b10 bl7 (B.length : Int) mo 1 :: R :: F) (fun (z : Nat) => True) (fun (z : Nat) => z) (i1 (0) ?_ (kR ln) (sub (bp .nil) au)) ?_
 ·exact trivial
 intro z
 rintro -
 refine rL fy 4 rfl ?_
 refine ai (ra b10 bl7 (B.length : Int) mo 1) V.qv  rfl (aw .nil) rfl ?_
 rintro _ _ ⟨rfl, rfl⟩
 refine rO fy 12 rfl ?_
 refine ai (yz b10 bl7 (B.length : Int) mo 1) V.LO  rfl (aw .nil) rfl ?_
 rintro _ _ ⟨q17, c17, rfl, rfl⟩
 refine oV (aG rfl) ?_
 refine ai (zm b10 bl7 (B.length : Int) mo 1 (by decide)) V.L9  rfl (.cons aE .nil) rfl ?_
 rintro _ _ ⟨rfl, rfl⟩
 refine oV (aG rfl) ?_
 refine ai (CT b10 bl7 (B.length : Int) mo 1) V.LH  rfl (aw .nil) rfl ?_
 rintro _ _ ⟨rfl, rfl⟩
 refine rO fy 6 rfl ?_
 exact aj (LV rfl rfl rfl) ⟨q17, c17, rfl, rfl⟩ (sub (.cons aE (.cons aE .nil)) cG)
theorem MR (p : Option Addr) (cap : Nat) (B : List Int) (R : ab) (hR : ∀ w0 h, R w0 h → aS U5 p B.length B w0 h) (hl : B.length < 500000000) (hB : ak.az B) (mo : Int) (hm : mo < 500000000) (q : List Int × Int × Int) (hq : ad.jU B mo q) : aK Tryz.prog 119 [.slice p B.length cap, .int .i64 mo] [R] (aR fun v G => ∃ qq cq, v = .tuple #[.slice qq q.1.length cq, .int .i64 q.2.1, .int .i64 q.2.2] ∧ G = [Row U5 qq q.1.length cq q.1, R]) := by
 by_cases h : mo < 0
 ·exact H8 p cap B R hR hl mo h q hq
 ·exact Hu p cap B R hR hl hB mo ⟨by omega, hm⟩ q hq
end Go.Proofs.YtmaiakpjgomnpaaGreat
namespace Go.Proofs.YtmaiakpjgomnpaaGreat
open Go.Sl 
attribute [local irreducible] ag.cu ag.tk ag.ord ag.cQ ag.words ag.dj ad.iP ad.iM
attribute [local irreducible] ag.wd ag.mi ag.kH ag.n6
end Go.Proofs.YtmaiakpjgomnpaaGreat
namespace Go.Proofs.YtmaiakpjgomnpaaGreat
open Go.Sl 
end Go.Proofs.YtmaiakpjgomnpaaGreat
namespace Go.Proofs.YtmaiakpjgomnpaaGreat
open Go.Sl 
attribute [local irreducible] ag.cu ag.tk ag.ord ag.cQ ag.words ag.dj ag.mi ag.kH ag.n6 ag.wb ag.ins ag.bits
end Go.Proofs.YtmaiakpjgomnpaaGreat
namespace Go.Sl
abbrev TK : Ec aT.eb := ⟨245, 3, fun t => [.int .i64 t.lit, .int .i64 t.n, .int .i64 t.cE], ⟨0, 0, 0⟩, fun _ => rfl, fun _ => rfl⟩
end Go.Sl
namespace Go.Proofs.YtmaiakpjgomnpaaGreat
open Go.Sl 
attribute [local irreducible] List.replicate aT.hs aT.x3 aT.Am aT.tM aT.L5 aT.qY aT.uD aT.vt
end Go.Proofs.YtmaiakpjgomnpaaGreat
namespace Go.Proofs.YtmaiakpjgomnpaaGreat
open Go.Sl 
attribute [local irreducible] aT.s7 aT.zR aT.uj aT.EO aT.Eo aT.uk aT.EF aT.El aT.uc aT.rp ag.cu ag.wb ag.ord ag.cQ ag.words ag.dj ag.mi ag.kH ag.n6
end Go.Proofs.YtmaiakpjgomnpaaGreat
namespace Go.Proofs.YtmaiakpjgomnpaaGreat
open Go.Sl 
attribute [local irreducible] aT.Gp aT.Ke aT.dn aT.rr aT.EJ aT.wX aT.xz aT.wm aT.DZ aT.Oa aT.Ov aT.uj aT.EO aT.Eo aT.uk aT.EF aT.El List.replicate
end Go.Proofs.YtmaiakpjgomnpaaGreat
namespace Go.Sl
section
variable {C : Ctx} {E : Env} {L : List ab} {ty : TypeId}
theorem zE (l : List Int) : l.flatMap (fun x => [Value.int .u8 x]) = l.map (Value.int .u8) := by
  induction l with
  | nil => rfl
  | cons a l ih => simp [List.flatMap_cons, ih]
theorem l9 {T : TypeId} {x : Operand} {src dst e : TypeId} {p : Option Addr} {n cap : Nat} {l : List Int} (hs : C.P.underlying src = some (.slice e)) (he : C.P.underlying e = some (.int .u8)) (hd : C.P.underlying dst = some .string) (hx : aq E x = some (.slice p n cap)) (H : Has C.w0 L (aW T .u8) p n l) : cF C (.convert src dst x) ty E L (.string (strOfNums l)) L :=
  fun d pos aft g a w ha hi => by
    refine ⟨w, .inl ?_, hi, fun h => by cases h⟩
    obtain ⟨R, hm, hR⟩ := H
    have hh := hi.mem hm
    have hlen : l.length = n := Has.len ⟨R, hm, hR⟩ hi
    obtain ⟨e1, e2⟩ := hi.rd hm (fun h hh => (hR h hh).2)
    have hconv : (convert src dst (.slice p n cap)).run C.P w = .ok (.string (strOfNums l)) w := by
      cases p with
      | none =>
        have h0 : n = 0 := by
          rcases e2 with h | ⟨b, o, h, _⟩
          · exact h
          · cases h
        have hl : l = [] := List.length_eq_zero_iff.1 (by omega)
        rw [run_convert_bytes_nil w src e hs he n cap dst hd, hl]
        rfl
      | some q =>
        rcases e2 with h | ⟨b, o, h, hc⟩
        · have hl : l = [] := List.length_eq_zero_iff.1 (by omega)
          subst hl
          subst h
          rw [run_convert_bytes_string w src dst e _ 0 cap hs he hd, run_bytesToString w q 0 cap [] (by simp [loadCells, loadCellsFrom])]
          rfl
        · cases h
          refine run_convert_bytes_arg w src e hs he b o n cap l hlen (fun i hi2 => ?_) dst hd
          refine hc i _ ?_
          rw [zE]
          have hil : i < l.length := by omega
          simp [List.getElem?_map, List.getD_eq_getElem?_getD, hil]
    simp only [execOp, ha.eval hx, Sem.run_bind, hconv, Result.andThen_ok, Sem.run_pure]
theorem FN {x y : Operand} {t t' : TypeId} {s u : ByteArray} {r : Bool} (hx : aq E x = some (.string s)) (hy : aq E y = some (.string u)) (hr : (s.toList == u.toList) = r) : cF C (.binOp .eql t x y t') ty E L (.bool r) L :=
  dQ fun d pos aft g a w ha => by
    rw [jE d pos aft g (ha.eval hx) (ha.eval hy) (by simp [eqGuard])]
    simp [binOp, Op.stringOp, ← hr, Sem.run_pure]
end
end Go.Sl
namespace Go.Sl
end Go.Sl
namespace Go.Sl
end Go.Sl
namespace Go.ak
theorem eB (n : Int) : IntKind.u8.wrap n = n % 256 := rfl
theorem rh {n : Int} (h0 : 0 ≤ n) (h1 : n < 2 ^ 62) : IntKind.i64.wrap ((BitVec.ofInt IntKind.i64.bits (-1) ^^^ BitVec.ofInt IntKind.i64.bits n).toNat : Int) = -n - 1 := by
  obtain ⟨a, rfl⟩ : ∃ a : Nat, n = (a : Int) := ⟨n.toNat, by omega⟩
  have e : IntKind.i64.bits = 64 := rfl
  have e1 : BitVec.ofInt 64 (-1) = BitVec.allOnes 64 := by decide
  rw [e, e1, BitVec.xor_comm, BitVec.xor_allOnes, BitVec.toNat_not, eF, Nat.mod_eq_of_lt (by omega)]
  have e2 : ∀ m : Int, IntKind.i64.wrap m = if m % 18446744073709551616 ≥ 9223372036854775808 then m % 18446744073709551616 - 18446744073709551616 else m % 18446744073709551616 := fun m => by
    unfold IntKind.wrap
    have s1 : IntKind.i64.signed = true := rfl
    simp only [s1, e, Bool.true_and, decide_eq_true_eq]
    rfl
  rw [e2]
  have : a < 2 ^ 62 := by omega
  split <;> omega
end Go.ak
namespace Go.Sl
section
variable {C : Ctx} {E : Env} {L : List ab} {ty : TypeId}
theorem rm {x : Operand} {t : TypeId} {n r : Int} (h : aq E x = some (.int .i64 n)) (e : IntKind.i64.wrap ((BitVec.ofInt IntKind.i64.bits (-1) ^^^ BitVec.ofInt IntKind.i64.bits n).toNat : Int) = r) : cF C (.unOp .xor t x) ty E L (.int .i64 r) L := dQ fun d pos aft g a w ha => by
  rw [← e]
  have s1 : IntKind.i64.signed = true := rfl
  simp [execOp, ha.eval h, Op.unary, Op.intBits, s1]
end
end Go.Sl
namespace Go.Proofs.YtmaiakpjgomnpaaGreat
open Go.Sl 
attribute [local irreducible] aT.jo aT.iN ad.gh ad.gj ag.cu ag.ord ag.cQ ag.words ag.dj ag.wb ag.n6 ag.kH ag.mi aT.rp ad.iP ad.gf
theorem lY {c : Ec Int} {p : Option Addr} {n cap : Nat} {l : List Int} {R : ab} (hR : ∀ w0 h, R w0 h → aS c p n l w0 h) (k : Nat) (hk : k ≤ n) : ∀ w0 h, R w0 h → aS c p k (l.take k) w0 h := fun w0 h hh => by
  have := (hR w0 h hh).sub 0 k n (Nat.zero_le _) hk hk
  rwa [nt, Nat.sub_zero, List.drop_zero] at this
theorem gW {c : Ec Int} {p : Option Addr} {n : Nat} {l : List Int} {R : ab} (hR : ∀ w0 h, R w0 h → aS c p n l w0 h) (hl : l.length = n) (k m : Nat) (hk : k ≤ n) (hm : n ≤ m) : ∀ w0 h, R w0 h → aS c (eo p k m c.sz) (n - k) (l.drop k) w0 h := fun w0 h hh => by
  have := (hR w0 h hh).sub k n m hk (Nat.le_refl _) hm
  rwa [List.take_of_length_le (by rw [List.length_drop]; omega)] at this
end Go.Proofs.YtmaiakpjgomnpaaGreat
namespace Go.Proofs.YtmaiakpjgomnpaaGreat
open Go.Sl 
attribute [local irreducible] ag.cu ag.ord ag.cQ ag.words ag.dj ag.wb ag.n6 ag.kH ag.mi aT.rp ad.gf ak.lR aT.FJ aT.wX aT.wm aT.fA aT.fB lJ.uL
abbrev Q2 : Ec (Int × Int) := ⟨246, 2, fun x => [.int .i64 x.1, .int .i64 x.2], (0, 0), fun _ => rfl, fun _ => rfl⟩
end Go.Proofs.YtmaiakpjgomnpaaGreat
namespace Go.Sl
structure Pc where
  w : Int
  p : Option Addr
  n : Nat
  c : Nat
  s : List Int
abbrev PC : Ec Pc := ⟨267, 2, fun x => [.int .i64 x.w, .slice x.p x.n x.c], ⟨0, none, 0, 0, []⟩, fun _ => rfl, fun _ => rfl⟩
structure Sx where
  p : Option Addr
  n : Nat
  c : Nat
abbrev PS : Ec Sx := ⟨265, 1, fun x => [.slice x.p x.n x.c], ⟨none, 0, 0⟩, fun _ => rfl, fun _ => rfl⟩
abbrev QS : Ec Sx := ⟨47, 1, fun x => [.slice x.p x.n x.c], ⟨none, 0, 0⟩, fun _ => rfl, fun _ => rfl⟩
def RT (B : List Pc) : ab := fun w0 h => dq w0 (B.map fun x => Row I3 x.p x.n x.c x.s) h
def SB (xs : List Sx) (k : Nat) : Nat := ((xs.take k).map Sx.n).sum
def pk (x : Pc) : lJ.Pk := (x.w, x.s)
def LL (po : Option Addr) (n co : Nat) (A0 : List Pc) (pl : Option Addr) (nl cl : Nat) (l : List Pc) : ab := fun w0 h => (Row PC po n co A0 w0 h ∧ pl = po ∧ nl = n ∧ cl = co ∧ l = A0) ∨ dq w0 [Row PC po n co A0, Row PC pl nl cl l] h
structure Sr (fr : List Int) (de : Int) : Prop where
  m1 : 1 ≤ de
  m2 : de ≤ 15
  len : fr.length ≤ 320
  SC : ∀ i, i < fr.length → 0 ≤ fr.getD i 0 ∧ fr.getD i 0 ≤ 1048576
  QY : (lJ.II fr fr.length).length ≤ 2 ^ de.toNat
end Go.Sl
namespace Go.Proofs.YtmaiakpjgomnpaaGreat
open Go.Sl 
end Go.Proofs.YtmaiakpjgomnpaaGreat
namespace Go.Proofs.YtmaiakpjgomnpaaGreat
open Go.Sl 
end Go.Proofs.YtmaiakpjgomnpaaGreat
namespace Go.Proofs.YtmaiakpjgomnpaaGreat
open Go.Sl 
end Go.Proofs.YtmaiakpjgomnpaaGreat
namespace Go.Proofs.YtmaiakpjgomnpaaGreat
open Go.Sl Go.Shelf
def Mx : Go.Shelf.Ren := ⟨fun | 189 => 214 | 125 => 228 | 257 => 227 | 128 => 243 | 129 => 244 | 294 => 234 | 295 => 235 | 296 => 236 | 297 => 237 | 298 => 238 | 299 => 239 | 216 => 240 | 300 => 241 | 301 => 242 | 328 => 248 | 329 => 249 | 330 => 250 | 331 => 251 | 332 => 252 | 215 => 230 | 343 => 255 | n => n, fun | 28 => 47 | 3 => 3 | 46 => 52 | 0 => 0 | 51 => 76 | 53 => 302 | 4 => 4 | 183 => 295 | 182 => 294 | 131 => 125 | 5 => 5 | 9 => 9 | 218 => 305 | 222 => 309 | 228 => 311 | 229 => 210 | n => n, fun | n => n⟩
end Go.Proofs.YtmaiakpjgomnpaaGreat
namespace Go.Proofs.YtmaiakpjgomnpaaGreat
open Go.Sl 
end Go.Proofs.YtmaiakpjgomnpaaGreat
namespace Go.Proofs.YtmaiakpjgomnpaaGreat
open Go.Sl 
attribute [local irreducible] ag.cu ag.ord ag.cQ ag.words ag.dj ag.wb ag.n6 ag.kH ag.mi aT.rp ad.gf ak.lR aT.FJ aT.wX aT.wm aT.fA aT.fB lJ.uL ag.bits aT.dA aT.dB aT.dF aT.Om aT.DE aT.Ei aT.Ob aT.dS aT.Ox List.replicate aT.xz
end Go.Proofs.YtmaiakpjgomnpaaGreat
namespace Go.Proofs.YtmaiakpjgomnpaaGreat
open Go.Sl 
attribute [local irreducible] aT.iN aT.Kb aT.IX aT.uD aT.sN aT.n5
abbrev S8 : Ec Sx := ⟨22, 1, fun x => [.slice x.p x.n x.c], ⟨none, 0, 0⟩, fun _ => rfl, fun _ => rfl⟩
end Go.Proofs.YtmaiakpjgomnpaaGreat
namespace Go.Proofs.YtmaiakpjgomnpaaGreat
open Go.Sl 
attribute [local irreducible] aT.n5
structure Dv where
  p1 : Option Addr
  n1 : Nat
  c1 : Nat
  t : Int
  p2 : Option Addr
  c2 : Nat
def DN (b : Nat) (B : List Int) (t : Nat) : ab := fun w0 h => ∃ i : Lv, True ∧ dq w0 [ao b 215 [.slice i.p1 B.length i.c1, .slice none 0 0, .int .i64 (t : Int), .bool false], Row U5 i.p1 B.length i.c1 B] h
def DD (b : Nat) (z : List Int) : ab := fun w0 h => ∃ i : Dv, True ∧ dq w0 [ao b 215 [.slice i.p1 i.n1 i.c1, .slice i.p2 z.length i.c2, .int .i64 i.t, .bool true], Row U5 i.p2 z.length i.c2 z] h
def DM (b : Nat) (B : List Int) : Option Nat → ab
  | some t => DN b B t
  | none => DD b (aT.n5 B)
def RM (B : List Int) (s : Option Nat) (n : Int) : Option Nat :=
  match s with
  | none => none
  | some t => if n < 1 then some t else if (B.length : Int) ≤ t + n then none else some (t + n.toNat)
end Go.Proofs.YtmaiakpjgomnpaaGreat
namespace Go.Proofs.YtmaiakpjgomnpaaGreat
open Go.Sl 
attribute [local irreducible] aT.n5
section
variable (b : Nat) (B : List Int) (s : Option Nat)
def Sg (B : List Int) : Option Nat → Prop
  | some t => t ≤ B.length
  | none => True
def RX (B : List Int) : Option Nat → List Int
  | some _ => []
  | none => aT.n5 B
end
end Go.Proofs.YtmaiakpjgomnpaaGreat
namespace Go.Proofs.YtmaiakpjgomnpaaGreat
open Go.Sl 
theorem RB : dC Tryz.prog ⟨[], [(151, 1, 1)]⟩ = true := by kernel_rfl
attribute [local irreducible] ag.cu ag.tk ag.ord ag.cQ ag.words ag.dj ad.iM ad.dh ad.dI ad.ew ad.hL ad.hD ad.hC ad.fE ad.told ad.gf ad.js ad.rep ad.ft ad.eJ ad.sym ad.dL ak.aV ad.fb ad.dR ad.one ad.fa ad.pZ ad.tP ad.np ad.ng
section
variable (b2 : Nat) (ls : List Int) (b : Nat) (p : Option Addr) (cap : Nat) (B : List Int) (R : ab) (hR : ∀ w0 h, R w0 h → aS U5 p B.length B w0 h) (sh : Bool) (a : Nat) (hE : ag.cu ls = 0) (hl : B.length < 500000000) (hB : ak.az B) (ha : a ≤ 8 * B.length)
include hR hE hl hB ha
end
end Go.Proofs.YtmaiakpjgomnpaaGreat
namespace Go.Proofs.YtmaiakpjgomnpaaGreat
open Go.Sl 
theorem Rw : dC Tryz.prog ⟨[22], []⟩ = true := by kernel_rfl
attribute [local irreducible] ag.cu ag.tk ag.ord ag.cQ ag.words ag.dj ad.iM ad.dh ad.dI ad.ew ad.hL ad.hD ad.hC ad.fE ad.told ad.gf ad.js ad.rep ad.ft ad.eJ ad.sym ad.dL ak.aV ad.fb ad.dR ad.one ad.fa ad.pZ ad.tP ad.np ad.ng
def PO (b : Nat) (p : Option Addr) (cap : Nat) (B : List Int) (R : ab) : Except Int ad.St → Value → List ab → Prop
 | .error e, v, G => v = .tuple #[.slice none 0 0, .int .i64 e] ∧ G = [R]
 | .ok S, v, G => ∃ q c sh, v = .tuple #[.slice q S.out.length c, .int .i64 0] ∧ G = [ao b 151 [.slice p B.length cap, .int .i64 (S.at_ : Int), .bool false, .bool sh], R, Row U5 q S.out.length c S.out]
end Go.Proofs.YtmaiakpjgomnpaaGreat
namespace Go.Proofs.YtmaiakpjgomnpaaGreat
open Go.Sl 
theorem Qr : dC Tryz.prog ⟨[47], []⟩ = true := by kernel_rfl
attribute [local irreducible] ag.cu ag.tk ag.ord ag.cQ ag.words ag.dj ad.iM ad.dh ad.dI ad.ew ad.hL ad.hD ad.hC ad.fE ad.told ad.gf ad.js ad.rep ad.ft ad.eJ ad.sym ad.dL ak.aV ad.fb ad.dR ad.one ad.fa ad.pZ ad.tP ad.np ad.ng ad.pq ad.yn ad.K6 ad.ly
def PD (b : Nat) (p : Option Addr) (cap : Nat) (B : List Int) (R : ab) : Except Int (Nat × List Int × List Int) → Value → List ab → Prop
 | .error e, v, G => v = .tuple #[.pointer none, .pointer none, .int .i64 e] ∧ G = [R]
 | .ok (a, l, d), v, G => ∃ x y sh, v = .tuple #[.pointer (some ⟨x, 0, none⟩), .pointer (some ⟨y, 0, none⟩), .int .i64 0] ∧ G = [ao b 151 [.slice p B.length cap, .int .i64 (a : Int), .bool false, .bool sh], R, RC x l, RC y d]
end Go.Proofs.YtmaiakpjgomnpaaGreat
namespace Go.Proofs.YtmaiakpjgomnpaaGreat
open Go.Sl 
theorem QC : dC Tryz.prog ⟨[], []⟩ = true := by kernel_rfl
attribute [local irreducible] ag.cu ag.tk ag.ord ag.cQ ag.words ag.dj ad.iM ad.dh ad.dI ad.ew ad.hL ad.hD ad.hC ad.fE ad.told ad.gf ad.js ad.rep ad.ft ad.eJ ad.sym ad.dL ak.aV ad.fb ad.dR ad.one ad.fa ad.pZ ad.tP ad.np ad.ng ad.ly
end Go.Proofs.YtmaiakpjgomnpaaGreat
namespace Go.Proofs.YtmaiakpjgomnpaaGreat
open Go.Sl
end Go.Proofs.YtmaiakpjgomnpaaGreat
namespace Go.Proofs.YtmaiakpjgomnpaaGreat
open Go.Sl 
theorem df : dC Tryz.prog ⟨[22], []⟩ = true := by kernel_rfl
attribute [local irreducible] aT.n5 ad.jU aT.de ak.az aL.fk
set_option maxHeartbeats 2000000 in
theorem JF (p : Option Addr) (c : Nat) (B : List Int) (R : ab) (hR : ∀ w0 h, R w0 h → aS U5 p B.length B w0 h) (hl : B.length < 500000000) (hB : ak.az B) : aK Tryz.prog 160 [.int .u32 1, .slice p B.length c] [R] (aR fun v G => v = .int .u32 (aL.gl B) ∧ G = [R]) := by
 refine ax [(0, _), (1, _)] Tryz.func160 rfl Tryz.ntmps160 rfl rfl ?_
 intro w0 F
 refine rT df 8 rfl ?_
 refine oV (kb (r := 1) rfl rfl rfl) ?_
 refine oV (aG rfl) ?_
 refine oV (eu (r := 0) rfl rfl (by decide) rfl) ?_
 refine rO df 13 rfl ?_
 rw [show ((5 : Nat), Value.int .u32 1) = (5, .int .u32 (aL.fk (B.take 0)).1) from by rw [List.take_zero, aL.re], show ((6 : Nat), Value.int .u32 0) = (6, .int .u32 (aL.fk (B.take 0)).2) from by rw [List.take_zero, aL.re]]
 refine dV (fun (i : Nat) => [(5, .int .u32 (aL.fk (B.take i)).1), (6, .int .u32 (aL.fk (B.take i)).2), (13, .slice p B.length c), (14, .int .i64 (B.length : Int)), (15, .int .i64 (i : Int))]) (fun (i : Nat) => R :: F) (fun (i : Nat) => i ≤ B.length) (fun (i : Nat) => B.length - i) (i1 (0) ?_ (dk ln) (sub (aw .nil) au)) ?_
 ·exact Nat.zero_le _
 intro i
 rintro hi
 refine rL df 6 rfl ?_
 refine aP rfl (fun h16 => ?_) (fun h16 => ?_)
 ·refine rC df 6 rfl ?_
  refine oV (xI V.bP (by exact aY hR an)) ?_
  refine oV (xL V.s5 (by exact aY hR an)) ?_
  refine rO df 4 rfl ?_
  have hv : 0 ≤ (U5.g B (i : Int)) ∧ (U5.g B (i : Int)) < 256 := hB.get i
  have hs := aL.qC (B.take i)
  refine rC df 3 rfl ?_
  refine oV (bE V.u5 Tryz.underlying76 rfl (aL.wrap32 (by omega) (by omega))) ?_
  refine oV (dz rfl rfl (aL.wrap32 (by omega) (by omega))) ?_
  refine oV (ig (r := ((aL.fk (B.take i)).1 + (U5.g B (i : Int))) % 65521) rfl rfl (by omega) (jP (by omega))) ?_
  refine rO df 6 rfl ?_
  refine oV (dz rfl rfl (aL.wrap32 (by omega) (by omega))) ?_
  refine oV (ig (r := ((aL.fk (B.take i)).2 + ((aL.fk (B.take i)).1 + (U5.g B (i : Int))) % 65521) % 65521) rfl rfl (by omega) (jP (by omega))) ?_
  refine cV df 8 rfl (by omega) ?_
  have e5 : ((aL.fk (B.take i)).1 + (U5.g B (i : Int))) % 65521 = (aL.fk (B.take (i + 1))).1 := by rw [aL.pc (by omega)]; rfl
  have e6 : ((aL.fk (B.take i)).2 + (aL.fk (B.take (i + 1))).1) % 65521 = (aL.fk (B.take (i + 1))).2 := by rw [aL.pc (by omega)]; rfl
  rw [e5, e6]
  exact j1 (i + 1) ⟨by omega, by omega⟩ (dk ln) (sub (aw .nil) au)
 ·refine rC df 6 rfl ?_
  obtain rfl : i = B.length := by omega
  rw [List.take_length]
  have hs := aL.qC B
  refine rC df 2 rfl ?_
  refine oV (fW (r := (aL.fk B).2 * 65536) rfl rfl (by decide) (aL.Jy (n := 16) rfl (by decide) rfl (by omega) (by omega))) ?_
  refine oV (aG rfl) ?_
  refine oV (my (r := (aL.fk B).2 * 65536 + (aL.fk B).1) rfl rfl (aL.KZ (u := (aL.fk B).2) (n := 16) rfl (by omega) (by omega) (by omega))) ?_
  refine rO df 4 rfl ?_
  exact aj (aC rfl) ⟨by unfold aL.gl; rfl, rfl⟩ (sub (aw .nil) au)
set_option maxHeartbeats 2000000 in
theorem KU (p : Option Addr) (c : Nat) (B : List Int) (R : ab) (hR : ∀ w0 h, R w0 h → aS U5 p B.length B w0 h) (hl : B.length < 500000000) (hB : ak.az B) : aK Tryz.prog 63 [.int .u32 1, .slice p B.length c] [R] (aR fun v G => v = .int .u32 (aL.gl B) ∧ G = [R]) := by
 refine ax [(0, _), (1, _)] Tryz.func63 rfl Tryz.ntmps63 rfl rfl ?_
 intro w0 F
 refine rT df 8 rfl ?_
 refine oV (kb (r := 1) rfl rfl rfl) ?_
 refine oV (aG rfl) ?_
 refine oV (eu (r := 0) rfl rfl (by decide) rfl) ?_
 refine rO df 11 rfl ?_
 rw [show ((5 : Nat), Value.int .u32 1) = (5, .int .u32 (aL.fk (B.take 0)).1) from by rw [List.take_zero, aL.re], show ((6 : Nat), Value.int .u32 0) = (6, .int .u32 (aL.fk (B.take 0)).2) from by rw [List.take_zero, aL.re]]
 refine dV (fun (i : Nat) => [(1, .slice p B.length c), (5, .int .u32 (aL.fk (B.take i)).1), (6, .int .u32 (aL.fk (B.take i)).2), (7, .int .i64 (i : Int))]) (fun (i : Nat) => R :: F) (fun (i : Nat) => i ≤ B.length) (fun (i : Nat) => B.length - i) (i1 (0) ?_ (eN ln) (sub (aw .nil) au)) ?_
 ·exact Nat.zero_le _
 intro i
 rintro hi
 refine rL df 9 rfl ?_
 refine aP rfl (fun h15 => ?_) (fun h15 => ?_)
 ·refine rC df 5 rfl ?_
  have hv : 0 ≤ (U5.g B (i : Int)) ∧ (U5.g B (i : Int)) < 256 := hB.get i
  have hs := aL.qC (B.take i)
  refine rC df 4 rfl ?_
  refine oV (xI V.bP (by exact aY hR an)) ?_
  refine oV (xL V.s5 (by exact aY hR an)) ?_
  refine oV (bE V.u5 Tryz.underlying76 rfl (aL.wrap32 (by omega) (by omega))) ?_
  refine oV (dz rfl rfl (aL.wrap32 (by omega) (by omega))) ?_
  refine oV (ig (r := ((aL.fk (B.take i)).1 + (U5.g B (i : Int))) % 65521) rfl rfl (by omega) (jP (by omega))) ?_
  refine rO df 6 rfl ?_
  refine oV (dz rfl rfl (aL.wrap32 (by omega) (by omega))) ?_
  refine oV (ig (r := ((aL.fk (B.take i)).2 + ((aL.fk (B.take i)).1 + (U5.g B (i : Int))) % 65521) % 65521) rfl rfl (by omega) (jP (by omega))) ?_
  refine cV df 9 rfl (by omega) ?_
  have e5 : ((aL.fk (B.take i)).1 + (U5.g B (i : Int))) % 65521 = (aL.fk (B.take (i + 1))).1 := by rw [aL.pc (by omega)]; rfl
  have e6 : ((aL.fk (B.take i)).2 + (aL.fk (B.take (i + 1))).1) % 65521 = (aL.fk (B.take (i + 1))).2 := by rw [aL.pc (by omega)]; rfl
  rw [e5, e6]
  exact j1 (i + 1) ⟨by omega, by omega⟩ (eN ln) (sub (aw .nil) au)
 ·refine rC df 6 rfl ?_
  obtain rfl : i = B.length := by omega
  rw [List.take_length]
  have hs := aL.qC B
  refine rC df 2 rfl ?_
  refine oV (fW (r := (aL.fk B).2 * 65536) rfl rfl (by decide) (aL.Jy (n := 16) rfl (by decide) rfl (by omega) (by omega))) ?_
  refine oV (aG rfl) ?_
  refine oV (my (r := (aL.fk B).2 * 65536 + (aL.fk B).1) rfl rfl (aL.KZ (u := (aL.fk B).2) (n := 16) rfl (by omega) (by omega) (by omega))) ?_
  refine rO df 4 rfl ?_
  exact aj (aC rfl) ⟨by unfold aL.gl; rfl, rfl⟩ (sub (aw .nil) au)
theorem Hk (p : Option Addr) (c : Nat) (B : List Int) (R : ab) (hR : ∀ w0 h, R w0 h → aS U5 p B.length B w0 h) (hl : B.length < 500000000) (hB : ak.az B) : aK Tryz.prog 135 [.slice p B.length c] [R] (aR fun v G => v = .int .u32 (aL.gl B) ∧ G = [R]) := by
 refine ax [(0, _)] Tryz.func135 rfl Tryz.ntmps135 rfl rfl ?_
 intro w0 F
 refine rT df 8 rfl ?_
 refine ai (JF p c B R hR hl hB) V.PH  rfl (aw .nil) rfl ?_
 rintro _ _ ⟨rfl, rfl⟩
 refine rO df 4 rfl ?_
 exact aj (aC rfl) ⟨rfl, rfl⟩ (sub (aw .nil) au)
set_option maxHeartbeats 2000000 in
theorem BP (p : Option Addr) (c : Nat) (B : List Int) (R : ab) (hR : ∀ w0 h, R w0 h → aS U5 p B.length B w0 h) (hl : 2 ≤ B.length) (hB : ak.az B) (t : Bool) (ht : t = decide (aL.Hd (B.getD 0 0) (B.getD 1 0))) : aK Tryz.prog 118 [.slice p B.length c] [R] (aR fun v G => v = .bool t ∧ G = [R]) := by
 refine ax [(0, _)] Tryz.func118 rfl Tryz.ntmps118 rfl rfl ?_
 intro w0 F
 have hv : 0 ≤ (U5.g B 0) ∧ (U5.g B 0) < 256 := hB.get 0
 have hw : 0 ≤ (U5.g B 1) ∧ (U5.g B 1) < 256 := hB.get 1
 have ht2 : t = decide (aL.Hd (U5.g B 0) (U5.g B 1)) := ht
 clear ht
 refine rT df 6 rfl ?_
 refine oB V.mixed (by kernel_rfl) ?_
 refine oR (aG rfl) ?_
 refine oR (xI V.bP (by exact aY hR an)) ?_
 refine oR (xL V.s5 (by exact aY hR an)) ?_
 refine oR (bE V.u5 Tryz.underlying3 rfl wI) ?_
 refine oR (aG rfl) ?_
 refine oR (xI V.bP (by exact aY hR an)) ?_
 refine oR (xL V.s5 (by exact aY hR an)) ?_
 refine oR (bE V.u5 Tryz.underlying3 rfl wI) ?_
 refine rR df 2 rfl ?_
 refine Rg.cH ?_
 refine bu ?_
 rcases (aL.Nc (U5.g B 0) (U5.g B 1)) with h1 | ⟨h1, h2⟩ | ⟨h1, h2, h3⟩ | ⟨h1, h2, h3, h4⟩ | ⟨h1, h2, h3, h4⟩
 ·refine rC df 3 rfl ?_
  refine oV (kb (r := (U5.g B 0) % 16) rfl rfl (aL.tw hv)) ?_
  refine oV (aA (av rfl rfl) (by omega)) ?_
  refine rO df 22 rfl ?_
  (obtain rfl : t = false := ht2.trans (decide_eq_false (by unfold aL.Hd; intro hh; omega)); exact aj (G := [R]) (aC rfl) ⟨rfl, rfl⟩ (sub (aw .nil) au))
 ·refine rC df 3 rfl ?_
  refine oV (kb (r := (U5.g B 0) % 16) rfl rfl (aL.tw hv)) ?_
  refine oV (aU (av rfl rfl) (by omega)) ?_
  refine rO df 2 rfl ?_
  refine ae rfl ?_
  refine oV (eu (r := (U5.g B 0) / 16) rfl rfl (by decide) (aL.FE hv.1)) ?_
  refine ae rfl ?_
  refine oV (aA (eG rfl rfl) (by omega)) ?_
  refine rO df 18 rfl ?_
  (obtain rfl : t = false := ht2.trans (decide_eq_false (by unfold aL.Hd; intro hh; omega)); exact aj (G := [R]) (aC rfl) ⟨rfl, rfl⟩ (sub (aw .nil) au))
 ·refine rC df 3 rfl ?_
  refine oV (kb (r := (U5.g B 0) % 16) rfl rfl (aL.tw hv)) ?_
  refine oV (aU (av rfl rfl) (by omega)) ?_
  refine rO df 2 rfl ?_
  refine ae rfl ?_
  refine oV (eu (r := (U5.g B 0) / 16) rfl rfl (by decide) (aL.FE hv.1)) ?_
  refine ae rfl ?_
  refine oV (aU (eG rfl rfl) (by omega)) ?_
  refine rO df 3 rfl ?_
  refine ae rfl ?_
  refine oV (fW (r := (U5.g B 0) * 256) rfl rfl (by decide) (aL.uH (n := 8) rfl (by decide) rfl (by omega) (by omega))) ?_
  refine ae rfl ?_
  refine oV (aG rfl) ?_
  refine ae rfl ?_
  refine oV (my (r := (U5.g B 0) * 256 + (U5.g B 1)) rfl rfl (aL.pg (u := (U5.g B 0)) (n := 8) rfl hv.1 (by omega) (by omega))) ?_
  refine ae rfl ?_
  refine oV (ig (r := ((U5.g B 0) * 256 + (U5.g B 1)) % 31) rfl rfl (by omega) (jP (by omega))) ?_
  refine ae rfl ?_
  refine oV (aA (av rfl rfl) (by omega)) ?_
  refine rO df 10 rfl ?_
  (obtain rfl : t = false := ht2.trans (decide_eq_false (by unfold aL.Hd; intro hh; omega)); exact aj (G := [R]) (aC rfl) ⟨rfl, rfl⟩ (sub (aw .nil) au))
 ·refine rC df 3 rfl ?_
  refine oV (kb (r := (U5.g B 0) % 16) rfl rfl (aL.tw hv)) ?_
  refine oV (aU (av rfl rfl) (by omega)) ?_
  refine rO df 2 rfl ?_
  refine ae rfl ?_
  refine oV (eu (r := (U5.g B 0) / 16) rfl rfl (by decide) (aL.FE hv.1)) ?_
  refine ae rfl ?_
  refine oV (aU (eG rfl rfl) (by omega)) ?_
  refine rO df 3 rfl ?_
  refine ae rfl ?_
  refine oV (fW (r := (U5.g B 0) * 256) rfl rfl (by decide) (aL.uH (n := 8) rfl (by decide) rfl (by omega) (by omega))) ?_
  refine ae rfl ?_
  refine oV (aG rfl) ?_
  refine ae rfl ?_
  refine oV (my (r := (U5.g B 0) * 256 + (U5.g B 1)) rfl rfl (aL.pg (u := (U5.g B 0)) (n := 8) rfl hv.1 (by omega) (by omega))) ?_
  refine ae rfl ?_
  refine oV (ig (r := ((U5.g B 0) * 256 + (U5.g B 1)) % 31) rfl rfl (by omega) (jP (by omega))) ?_
  refine ae rfl ?_
  refine oV (aU (av rfl rfl) (by omega)) ?_
  refine rO df 3 rfl ?_
  refine ae rfl ?_
  refine oV (kb (r := 32 * ((U5.g B 1) / 32 % 2)) rfl rfl (aL.FA hw)) ?_
  refine ae rfl ?_
  refine oV (aA (av rfl rfl) (by omega)) ?_
  refine rO df 5 rfl ?_
  (obtain rfl : t = false := ht2.trans (decide_eq_false (by unfold aL.Hd; intro hh; omega)); exact aj (G := [R]) (aC rfl) ⟨rfl, rfl⟩ (sub (aw .nil) au))
 ·refine rC df 3 rfl ?_
  refine oV (kb (r := (U5.g B 0) % 16) rfl rfl (aL.tw hv)) ?_
  refine oV (aU (av rfl rfl) (by omega)) ?_
  refine rO df 2 rfl ?_
  refine ae rfl ?_
  refine oV (eu (r := (U5.g B 0) / 16) rfl rfl (by decide) (aL.FE hv.1)) ?_
  refine ae rfl ?_
  refine oV (aU (eG rfl rfl) (by omega)) ?_
  refine rO df 3 rfl ?_
  refine ae rfl ?_
  refine oV (fW (r := (U5.g B 0) * 256) rfl rfl (by decide) (aL.uH (n := 8) rfl (by decide) rfl (by omega) (by omega))) ?_
  refine ae rfl ?_
  refine oV (aG rfl) ?_
  refine ae rfl ?_
  refine oV (my (r := (U5.g B 0) * 256 + (U5.g B 1)) rfl rfl (aL.pg (u := (U5.g B 0)) (n := 8) rfl hv.1 (by omega) (by omega))) ?_
  refine ae rfl ?_
  refine oV (ig (r := ((U5.g B 0) * 256 + (U5.g B 1)) % 31) rfl rfl (by omega) (jP (by omega))) ?_
  refine ae rfl ?_
  refine oV (aU (av rfl rfl) (by omega)) ?_
  refine rO df 3 rfl ?_
  refine ae rfl ?_
  refine oV (kb (r := 32 * ((U5.g B 1) / 32 % 2)) rfl rfl (aL.FA hw)) ?_
  refine ae rfl ?_
  refine oV (aU (av rfl rfl) (by omega)) ?_
  refine rO df 5 rfl ?_
  (obtain rfl : t = true := ht2.trans (decide_eq_true (by unfold aL.Hd; exact ⟨h1, h2, h3, h4⟩)); exact aj (G := [R]) (aC rfl) ⟨rfl, rfl⟩ (sub (aw .nil) au))
set_option maxHeartbeats 2000000 in
theorem Fc (p : Option Addr) (c : Nat) (B : List Int) (R : ab) (hR : ∀ w0 h, R w0 h → aS U5 p B.length B w0 h) (hl : B.length < 500000000) (hB : ak.az B) : aK Tryz.prog 103 [.slice p B.length c] [R] (aR fun v G => v = .string (strOfNums (aL.kU B)) ∧ G = [R]) := by
 refine ax [(0, _)] Tryz.func103 rfl Tryz.ntmps103 rfl rfl ?_
 intro w0 F
 have hn := aL.vI B
 refine rT df 8 rfl ?_
 refine ai (Hk p c B R hR hl hB) V.O2  rfl (aw .nil) rfl ?_
 rintro _ _ ⟨rfl, rfl⟩
 refine rO df 6 rfl ?_
 refine oV (eu (r := aL.gl B / 2 ^ 24) rfl rfl (by decide) (aL.Ai (n := 24) rfl (by decide))) ?_
 refine oV (bE V.oc Tryz.underlying5 rfl ((ak.eB _).trans (show (aL.gl B / 2 ^ 24) % 256 = aL.gl B / 16777216 from by omega))) ?_
 refine oV (aG rfl) ?_
 refine oV (eu (r := aL.gl B / 2 ^ 16) rfl rfl (by decide) (aL.Ai (n := 16) rfl (by decide))) ?_
 refine oV (bE V.oc Tryz.underlying5 rfl ((ak.eB _).trans (show (aL.gl B / 2 ^ 16) % 256 = aL.gl B / 65536 % 256 from by omega))) ?_
 refine oV (aG rfl) ?_
 refine oV (eu (r := aL.gl B / 2 ^ 8) rfl rfl (by decide) (aL.Ai (n := 8) rfl (by decide))) ?_
 refine oV (bE V.oc Tryz.underlying5 rfl ((ak.eB _).trans (show (aL.gl B / 2 ^ 8) % 256 = aL.gl B / 256 % 256 from by omega))) ?_
 refine oV (aG rfl) ?_
 refine oV (bE V.oc Tryz.underlying5 rfl ((ak.eB _).trans (show (aL.gl B) % 256 = aL.gl B % 256 from by omega))) ?_
 refine ef (U5) (aL.kU B) V.bP V.z5 rfl rfl rfl rfl rfl rfl ?_
 intro wG
 refine oV (l9 (T := 5) Tryz.underlying22 Tryz.underlying5 Tryz.underlying9 rfl (own an)) ?_
 refine rO df 4 rfl ?_
 exact aj (aC rfl) ⟨rfl, rfl⟩ (sub (.cons aE .nil) cG)
end Go.Proofs.YtmaiakpjgomnpaaGreat
namespace Go.Proofs.YtmaiakpjgomnpaaGreat
open Go.Sl 
theorem eO : dC Tryz.prog ⟨[22], []⟩ = true := by kernel_rfl
attribute [local irreducible] aT.n5 ad.jU aT.de ak.az aL.fk aL.kU aL.gl
section
variable {C : Ctx} {E : Env} {L : List ab} {ty : TypeId}
theorem ku {x y : Operand} {t t' : TypeId} {s u : ByteArray} {r : Bool} (hr : (s.toList == u.toList) = r) (hx : aq E x = some (.string s)) (hy : aq E y = some (.string u)) : cF C (.binOp .neq t x y t') ty E L (.bool (!r)) L :=
 dQ fun d pos aft g a w ha => by
  rw [jE d pos aft g (ha.eval hx) (ha.eval hy) (by simp [eqGuard])]
  simp [binOp, Op.stringOp, Sem.run_pure, ← hr, bne]
end
theorem KA (p : Option Addr) (c n : Nat) (L : List Int) (R : ab) (hR : ∀ w0 h, R w0 h → aS U5 p n L w0 h) (hn : L.length = n) (hl : n < 500000000) (hB : ak.az L) (mo : Int) (hm : mo < 500000000) (x : List Int) (u e : Int) (hq : ad.jU L mo (x, u, e)) : aK Tryz.prog 119 [.slice p n c, .int .i64 mo] [R] (aR fun v G => ∃ qq cq, v = .tuple #[.slice qq x.length cq, .int .i64 u, .int .i64 e] ∧ G = [Row U5 qq x.length cq x, R]) := by
 subst hn
 exact MR p c L R hR hl hB mo hm (x, u, e) hq
set_option maxHeartbeats 4000000 in
theorem Iz (p : Option Addr) (c : Nat) (B : List Int) (R : ab) (hR : ∀ w0 h, R w0 h → aS U5 p B.length B w0 h) (hcap : B.length ≤ c) (hl : B.length < 500000000) (hB : ak.az B) (mo : Int) (hm : mo < 500000000) (q : List Int × Int) (hq : aL.nU B mo q) : aK Tryz.prog 84 [.slice p B.length c, .int .i64 mo] [R] (aR fun v G => ∃ qq cq, v = .tuple #[.slice qq q.1.length cq, .int .i64 q.2] ∧ G = [Row U5 qq q.1.length cq q.1, R]) := by
 refine ax [(0, _), (1, _)] Tryz.func84 rfl Tryz.ntmps84 rfl rfl ?_
 intro w0 F
 refine rT eO 8 rfl ?_
 rcases (hq.OO hB hm) with ⟨hb6, rfl⟩ | ⟨hb6, hhd, rfl⟩ | ⟨x, n, e, hb6, hhd, hr, hxB, hxl, hn, hws⟩
 ·refine rC eO 4 rfl ?_
  refine oV (aU (bD rfl rfl) (by omega)) ?_
  refine rO eO 13 rfl ?_
  exact aj (fH rfl rfl) ⟨none, 0, rfl, rfl⟩ (Sl.Sub.trans (ei (A := Row U5 none 0 0 []) (fun w0 => Row.nil U5 w0 _)) (sub (bp .nil) au))
 ·refine rC eO 4 rfl ?_
  refine oV (aA (bD rfl rfl) (by omega)) ?_
  refine rO eO 7 rfl ?_
  refine ai (BP p c B R hR (by omega) hB false (decide_eq_false hhd).symm) V.L7  rfl (aw .nil) rfl ?_
  rintro _ _ ⟨rfl, rfl⟩
  refine rO eO 14 rfl ?_
  exact aj (fH rfl rfl) ⟨none, 0, rfl, rfl⟩ (Sl.Sub.trans (ei (A := Row U5 none 0 0 []) (fun w0 => Row.nil U5 w0 _)) (sub (bp .nil) au))
 ·refine rC eO 4 rfl ?_
  refine oV (aA (bD rfl rfl) (by omega)) ?_
  refine rO eO 7 rfl ?_
  refine ai (BP p c B R hR (by omega) hB true (decide_eq_true hhd).symm) V.L7  rfl (aw .nil) rfl ?_
  rintro _ _ ⟨rfl, rfl⟩
  refine rO eO 9 rfl ?_
  have hB2 := aL.ej hB 2
  have hD2 : ∀ w0 h, R w0 h → aS U5 (eo p 2 c 1) (B.length - 2) (B.drop 2) w0 h := fun w0 h hh => gW (c := U5) hR rfl 2 c (by omega) hcap w0 h hh
  refine rC eO 2 rfl ?_
  refine oV (dW 2 _ _ V.bP rfl ⟨_, rfl⟩ ⟨rfl, rfl⟩ rfl (by omega) (by omega) (by omega)) ?_
  refine oV (aG rfl) ?_
  refine ai (KA (eo p 2 c 1) (c - 2) (B.length - 2) (B.drop 2) R hD2 List.length_drop (by omega) hB2 mo hm x (n : Int) e hr) V.Qe  rfl (aw .nil) rfl ?_
  rintro _ _ ⟨q22, c22, rfl, rfl⟩
  refine rO eO 10 rfl ?_
  have hBn := aL.ej hB (2 + n)
  have hDn : ∀ w0 h, R w0 h → aS U5 (eo p (2 + n) c 1) (B.length - (2 + n)) (B.drop (2 + n)) w0 h := fun w0 h hh => gW (c := U5) hR rfl (2 + n) c (by omega) hcap w0 h hh
  refine rC eO 3 rfl ?_
  refine oV (cN (v := .int .i64 ((2 + n : Nat) : Int)) (dz rfl rfl wI) (by congr 1)) ?_
  refine oV (dW (2 + n) B.length c V.bP rfl ⟨_, rfl⟩ ⟨rfl, rfl⟩ rfl (by omega) (by omega) (by omega)) ?_
  refine rO eO 5 rfl ?_
  rcases (hws) with ⟨he, rfl⟩ | ⟨he, h4, rfl⟩ | ⟨he, h4, rfl⟩ | ⟨he, h4, hne, rfl⟩ | ⟨he, h4, heq, rfl⟩
  ·refine rC eO 3 rfl ?_
   refine oV (aU (bG rfl rfl) he) ?_
   refine rO eO 14 rfl ?_
   exact aj (fH rfl rfl) ⟨none, 0, rfl, rfl⟩ (Sl.Sub.trans (ei (A := Row U5 none 0 0 []) (fun w0 => Row.nil U5 w0 _)) (sub (aw (.cons aE .nil)) cG))
  ·refine rC eO 3 rfl ?_
   refine oV (aA (bG rfl rfl) (fun h => h he)) ?_
   refine rO eO 8 rfl ?_
   refine oV (aU (bD rfl rfl) (by omega)) ?_
   refine rO eO 13 rfl ?_
   exact aj (fH rfl rfl) ⟨none, 0, rfl, rfl⟩ (Sl.Sub.trans (ei (A := Row U5 none 0 0 []) (fun w0 => Row.nil U5 w0 _)) (sub (aw (.cons aE .nil)) cG))
  ·refine rC eO 3 rfl ?_
   refine oV (aA (bG rfl rfl) (fun h => h he)) ?_
   refine rO eO 8 rfl ?_
   refine oV (aA (bD rfl rfl) (by omega)) ?_
   refine rO eO 8 rfl ?_
   refine oV (aU (bj rfl rfl) (by omega)) ?_
   refine rO eO 13 rfl ?_
   exact aj (fH rfl rfl) ⟨none, 0, rfl, rfl⟩ (Sl.Sub.trans (ei (A := Row U5 none 0 0 []) (fun w0 => Row.nil U5 w0 _)) (sub (aw (.cons aE .nil)) cG))
  ·refine rC eO 3 rfl ?_
   refine oV (aA (bG rfl rfl) (fun h => h he)) ?_
   refine rO eO 8 rfl ?_
   refine oV (aA (bD rfl rfl) (by omega)) ?_
   refine rO eO 8 rfl ?_
   refine oV (aA (bj rfl rfl) (by omega)) ?_
   refine rO eO 5 rfl ?_
   refine wN [pz 0 [] [9], pz 1 [0] [], pz 0 [] [6], pz 4 [2] [], pz 15 [1, 3] [], pz 31 [4] []] [⟨fun y => Row U5 q22 x.length c22 x, none, some 3, []⟩, ⟨fun y => R, none, none, [1]⟩, ⟨fun y => Row U5 q22 x.length c22 x, some 3, none, []⟩] F V.mixed ?_
   refine nM ?_
   refine nR (fun y FF hA => l9 (T := 5) Tryz.underlying22 Tryz.underlying5 Tryz.underlying9 rfl (by exact aY hDn an)) ?_
   refine nM ?_
   refine nE (fun y FF hA => bM (Post := [Row U5 q22 x.length c22 x]) (Fc q22 c22 x (Row U5 q22 x.length c22 x) (fun _ _ hh => hh.rd) (by omega) hxB) V.KQ rfl (aw .nil) (fun v G h => by rcases h with ⟨rfl, rfl⟩; exact ⟨rfl, .refl _⟩)) ?_
   refine nV (fun y hA L => cN (v := .bool true) (ku (s8 (aL.ba hBn) (aL.ba (aL.rj x)) hne) rfl rfl) rfl) ?_
   refine nA ?_
   refine aX ?_
   intro y hA
   clear hA
   refine bu ?_
   refine cy _ (.cons (d := 6) rfl (.cons (d := 42) rfl (.nil _))) ?_
   refine bR (M := R :: Row U5 q22 x.length c22 x :: F) (fun _ _ h => h) ?_
   refine rC eO 10 rfl ?_
   exact aj (fH rfl rfl) ⟨none, 0, rfl, rfl⟩ (Sl.Sub.trans (ei (A := Row U5 none 0 0 []) (fun w0 => Row.nil U5 w0 _)) (sub (bp .nil) cG))
  ·refine rC eO 3 rfl ?_
   refine oV (aA (bG rfl rfl) (fun h => h he)) ?_
   refine rO eO 8 rfl ?_
   refine oV (aA (bD rfl rfl) (by omega)) ?_
   refine rO eO 8 rfl ?_
   refine oV (aA (bj rfl rfl) (by omega)) ?_
   refine rO eO 5 rfl ?_
   refine wN [pz 0 [] [9], pz 1 [0] [], pz 0 [] [6], pz 4 [2] [], pz 15 [1, 3] [], pz 31 [4] []] [⟨fun y => Row U5 q22 x.length c22 x, none, some 3, []⟩, ⟨fun y => R, none, none, [1]⟩, ⟨fun y => Row U5 q22 x.length c22 x, some 3, none, []⟩] F V.mixed ?_
   refine nM ?_
   refine nR (fun y FF hA => l9 (T := 5) Tryz.underlying22 Tryz.underlying5 Tryz.underlying9 rfl (by exact aY hDn an)) ?_
   refine nM ?_
   refine nE (fun y FF hA => bM (Post := [Row U5 q22 x.length c22 x]) (Fc q22 c22 x (Row U5 q22 x.length c22 x) (fun _ _ hh => hh.rd) (by omega) hxB) V.KQ rfl (aw .nil) (fun v G h => by rcases h with ⟨rfl, rfl⟩; exact ⟨rfl, .refl _⟩)) ?_
   refine nV (fun y hA L => cN (v := .bool false) (ku (r := true) (by rw [heq]; exact beq_self_eq_true _) rfl rfl) rfl) ?_
   refine nA ?_
   refine aX ?_
   intro y hA
   clear hA
   refine bu ?_
   refine cy _ (.cons (d := 6) rfl (.cons (d := 42) rfl (.nil _))) ?_
   refine bR (M := R :: Row U5 q22 x.length c22 x :: F) (fun _ _ h => h) ?_
   refine rC eO 12 rfl ?_
   exact aj (fH rfl rfl) ⟨q22, c22, rfl, rfl⟩ (sub (.cons aE (aw .nil)) au)
end Go.Proofs.YtmaiakpjgomnpaaGreat
namespace Go.Proofs.YtmaiakpjgomnpaaGreat
open Go.Sl
theorem V.F6 : jS Tryz.prog 173 = some (256, 76, 1) := by kernel_rfl
theorem V.O8 : aJ Tryz.prog 111 = true := by kernel_rfl
theorem V.LP : aJ Tryz.prog 143 = true := by kernel_rfl
theorem V.OK : aJ Tryz.prog 96 = true := by kernel_rfl
theorem V.KS : bW Tryz.prog 175 0 = some 0 := by kernel_rfl
theorem V.N6 : fC Tryz.prog 175 = some [(0, 256)] := by kernel_rfl
theorem V.Og : dm Tryz.prog 76 = true := by kernel_rfl
theorem V.z175 : dH Tryz.prog 175 = some (List.replicate 256 (.int .u32 0)) := by kernel_rfl
end Go.Proofs.YtmaiakpjgomnpaaGreat
namespace Go.Proofs.YtmaiakpjgomnpaaGreat
open Go.Sl 
theorem cT : dC Tryz.prog ⟨[22], [(175, 0, 0)]⟩ = true := by kernel_rfl
attribute [local irreducible] ak.az aa.gL aa.gN aa.eC aa.gk aa.eW aa.iz
set_option maxHeartbeats 1000000 in
theorem NO (x : Int) (hx : 0 ≤ x ∧ x < 4294967296) : aK Tryz.prog 111 [.int .u32 x] [] (aR fun v G => v = .int .u32 (aa.gN x) ∧ G = []) := by
 refine ax [(0, _)] Tryz.func111 rfl Tryz.ntmps111 rfl rfl ?_
 intro w0 F
 refine rT cT 12 rfl ?_
 rw [show ((0 : Nat), Value.int .u32 x) = (0, .int .u32 (aa.gL 0 x)) from by rw [aa.FD hx.1]]
 refine dV (fun (k : Nat) => [(0, .int .u32 (aa.gL k x)), (3, .int .i64 (k : Int))]) (fun (k : Nat) => F) (fun (k : Nat) => k ≤ 8) (fun (k : Nat) => 8 - k) (i1 (0) ?_ (kF ln) (sub .nil au)) ?_
 ·exact Nat.zero_le _
 intro k
 rintro hk
 have hs := aa.Cj hx k
 refine rL cT 6 rfl ?_
 refine aP rfl (fun h4 => ?_) (fun h4 => ?_)
 ·refine rC cT 7 rfl ?_
  refine oV (kb (r := (aa.gL k x) % 2) rfl rfl (aa.vc hs)) ?_
  refine rO cT 3 rfl ?_
  refine aP rfl (fun h7 => ?_) (fun h7 => ?_)
  ·refine rC cT 2 rfl ?_
   refine oV (eu (r := (aa.gL k x) / 2) rfl rfl (by decide) (aa.ma (n := 1) rfl (by decide) rfl)) ?_
   refine oV (oT (r := aa.eC ((aa.gL k x) / 2) 3988292384) rfl rfl (aa.vn (by omega) (by decide))) ?_
   refine cV cT 8 rfl (by omega) ?_
   (rw [← aa.zx (by assumption)]; exact j1 (k + 1) ⟨by omega, by omega⟩ (kF ln) (sub .nil au))
  ·refine rC cT 2 rfl ?_
   refine oV (eu (r := (aa.gL k x) / 2) rfl rfl (by decide) (aa.ma (n := 1) rfl (by decide) rfl)) ?_
   refine cV cT 8 rfl (by omega) ?_
   (rw [← aa.xE (by assumption)]; exact j1 (k + 1) ⟨by omega, by omega⟩ (kF ln) (sub .nil au))
 ·refine rC cT 6 rfl ?_
  obtain rfl : k = 8 := by omega
  rw [aa.Fg]
  refine rC cT 6 rfl ?_
  exact aj (aC rfl) ⟨rfl, rfl⟩ (sub .nil au)
set_option maxHeartbeats 4000000 in
theorem MB  : aK Tryz.prog 78 [] [] (aR fun v G => ∃ b, v = .pointer (some ⟨b, 0, none⟩) ∧ G = [ao b 175 (CA [] .u32 aa.eW [])]) := by
 refine ax [] Tryz.func78 rfl Tryz.ntmps78 rfl rfl ?_
 intro w0 F
 refine rT cT 7 rfl ?_
 refine oV (bV V.N6 V.z175 rfl (cs := ints .u32 (List.replicate 256 0)) rfl) ?_
 refine eU rfl (vD _ _) rfl ?_
 intro b4
 refine rO cT 10 rfl ?_
 rw [← aa.JZ]
 refine dV (fun (i : Nat) => [(1, .pointer (some ⟨b4, 0, none⟩)), (5, .int .i64 (i : Int))]) (fun (i : Nat) => ao b4 175 (CA [] .u32 (aa.iz i) []) :: F) (fun (i : Nat) => i ≤ 256) (fun (i : Nat) => 256 - i) (i1 (0) ?_ (kF ln) (sub (aw .nil) au)) ?_
 ·exact Nat.zero_le _
 intro i
 rintro hi
 have hl := aa.vK (i := i) (by omega)
 refine rL cT 6 rfl ?_
 refine aP rfl (fun h6 => ?_) (fun h6 => ?_)
 ·refine rC cT 10 rfl ?_
  refine wN [pz 0 [] [1], pz 0 [] [2], pz 0 [] [2], pz 4 [2] [], pz 12 [3] [], pz 1 [0] [], pz 33 [5] [], pz 127 [6, 1] [], pz 255 [7, 4] []] [⟨fun y => ao b4 175 (CA [] .u32 (aa.iz i) []), none, some 8, []⟩, ⟨fun y => ao b4 175 (CA [] .u32 ((aa.iz i).set (((i : Int)).toNat) (aa.gN (i : Int))) []), some 8, none, []⟩] F V.mixed ?_
  iterate 3 refine nM ?_
  refine nV (fun y hA L => bE V.u3 Tryz.underlying76 rfl (aL.wrap32 (by omega) (by omega))) ?_
  refine nE (fun y FF hA => bM (Post := []) (NO (i : Int) (by omega)) V.O8 rfl .nil (fun v G h => by rcases h with ⟨rfl, rfl⟩; exact ⟨rfl, .refl _⟩)) ?_
  refine nN ?_
  refine nG V.KS ?_
  refine nV (fun y hA L => iy i rfl V.F6 rfl rfl (by omega)) ?_
  refine nE (fun y FF hA => dp (yi (i : Int) V.Og rfl rfl (by exact cZ) (by (simp only [List.length_cons, List.length_nil]; omega)) (by omega) (by omega)) ⟨rfl, .refl _⟩) ?_
  refine aX ?_
  intro y hA
  clear hA
  show lI _ _ _ _ (ao b4 175 (CA [] .u32 ((aa.iz i).set (((i : Int)).toNat) (aa.gN (i : Int))) []) :: F)
  refine kA ?_
  refine bu ?_
  refine bo ?_
  refine oV (dz rfl rfl wI) ?_
  refine oV (aG rfl) ?_
  refine cH ?_
  rw [show List.set (aa.iz i) ((i : Int)).toNat (aa.gN (i : Int)) = aa.iz (i + 1) from aa.Du (by omega)]
  refine j1 (i + 1) ?_ (kF ln) (sub (aw .nil) au)
  exact ⟨by omega, by omega⟩
 ·refine rC cT 6 rfl ?_
  obtain rfl : i = 256 := by omega
  rw [aa.H2]
  refine rC cT 6 rfl ?_
  exact aj (aC rfl) ⟨_, rfl, rfl⟩ (sub (aw .nil) au)
set_option maxHeartbeats 4000000 in
theorem BE (bt : Nat) (p : Option Addr) (c : Nat) (B : List Int) (R : ab) (hR : ∀ w0 h, R w0 h → aS U5 p B.length B w0 h) (hl : B.length < 500000000) (hB : ak.az B) (s : Int) (hs0 : 0 ≤ s ∧ s < 4294967296) : aK Tryz.prog 143 [.pointer (some ⟨bt, 0, none⟩), .int .u32 s, .slice p B.length c] [ao bt 175 (CA [] .u32 aa.eW []), R] (aR fun v G => v = .int .u32 (aa.qm s B) ∧ G = [ao bt 175 (CA [] .u32 aa.eW []), R]) := by
 refine ax [(0, _), (1, _), (2, _)] Tryz.func143 rfl Tryz.ntmps143 rfl rfl ?_
 intro w0 F
 have htl := aa.GZ
 refine rT cT 9 rfl ?_
 refine oV (cN (v := .bool false) (iS Tryz.underlying131 rfl rfl) rfl) ?_
 refine rO cT 8 rfl ?_
 refine oV (tl (r := 4294967295 - s) rfl rfl (aa.vo (by omega))) ?_
 refine rO cT 12 rfl ?_
 rw [show ((1 : Nat), Value.int .u32 (4294967295 - s)) = (1, .int .u32 (aa.gk (4294967295 - s) (B.take 0))) from by rw [List.take_zero]; unfold aa.gk; rfl]
 refine dV (fun (i : Nat) => [(0, .pointer (some ⟨bt, 0, none⟩)), (1, .int .u32 (aa.gk (4294967295 - s) (B.take i))), (13, .slice p B.length c), (14, .int .i64 (B.length : Int)), (15, .int .i64 (i : Int))]) (fun (i : Nat) => ao bt 175 (CA [] .u32 aa.eW []) :: R :: F) (fun (i : Nat) => i ≤ B.length) (fun (i : Nat) => B.length - i) (i1 (0) ?_ (dk ln) (sub (bp .nil) au)) ?_
 ·exact Nat.zero_le _
 intro i
 rintro hi
 refine rL cT 6 rfl ?_
 refine aP rfl (fun h16 => ?_) (fun h16 => ?_)
 ·refine rC cT 6 rfl ?_
  refine oV (xI V.bP (by exact aY hR bY)) ?_
  refine oV (xL V.s5 (by exact aY hR bY)) ?_
  refine rO cT 3 rfl ?_
  have hv : 0 ≤ (U5.g B (i : Int)) ∧ (U5.g B (i : Int)) < 256 := hB.get i
  have hs := aa.oq (l := B.take i) (s := (4294967295 - s)) (aa.fN hB i) (by omega)
  have hix := aa.JU (a := (aa.gk (4294967295 - s) (B.take i)) % 256) (b := (U5.g B (i : Int))) (by omega) hv
  have hrw := aa.yK (x := (aa.eC ((aa.gk (4294967295 - s) (B.take i)) % 256) (U5.g B (i : Int)))) (by omega)
  refine rC cT 3 rfl ?_
  refine oV (bE V.oc Tryz.underlying5 rfl (aa.eB _)) ?_
  refine oV (aG rfl) ?_
  refine oV (oT (r := (aa.eC ((aa.gk (4294967295 - s) (B.take i)) % 256) (U5.g B (i : Int)))) rfl rfl (aa.P5 (by omega) hv)) ?_
  refine rO cT 2 rfl ?_
  refine oV (iy (((aa.eC ((aa.gk (4294967295 - s) (B.take i)) % 256) (U5.g B (i : Int)))).toNat) (by omega) V.F6 rfl rfl (by omega)) ?_
  refine oV (mQ (aa.eC ((aa.gk (4294967295 - s) (B.take i)) % 256) (U5.g B (i : Int))) V.Og rfl an (by (simp only [List.length_cons, List.length_nil]; omega)) (by omega) (by omega)) ?_
  rw [aa.EP hix]
  refine oV (aG rfl) ?_
  refine oV (eu (r := (aa.gk (4294967295 - s) (B.take i)) / 256) rfl rfl (by decide) (aa.ma (n := 8) rfl (by decide) rfl)) ?_
  refine oV (oT (r := aa.eC (aa.gN (aa.eC ((aa.gk (4294967295 - s) (B.take i)) % 256) (U5.g B (i : Int)))) ((aa.gk (4294967295 - s) (B.take i)) / 256)) rfl rfl (aa.vn hrw (by omega))) ?_
  refine cV cT 8 rfl (by omega) ?_
  have ht := aa.w6 (l := B) (s := (4294967295 - s)) (i := i) (by omega)
  rw [show B.getD i 0 = (U5.g B (i : Int)) from rfl] at ht
  rw [aa.CH hs.1 hv] at ht
  rw [← ht]
  exact j1 (i + 1) ⟨by omega, by omega⟩ (dk ln) (sub (bp .nil) au)
 ·refine rC cT 6 rfl ?_
  obtain rfl : i = B.length := by omega
  rw [List.take_length]
  have hs := aa.oq (l := B) (s := (4294967295 - s)) hB (by omega)
  refine rC cT 2 rfl ?_
  refine oV (tl (r := 4294967295 - (aa.gk (4294967295 - s) B)) rfl rfl (aa.vo (by omega))) ?_
  refine rO cT 4 rfl ?_
  exact aj (aC rfl) ⟨by unfold aa.qm; rfl, rfl⟩ (sub (bp .nil) au)
set_option maxHeartbeats 4000000 in
theorem Fu (p : Option Addr) (c : Nat) (B : List Int) (R : ab) (hR : ∀ w0 h, R w0 h → aS U5 p B.length B w0 h) (hl : B.length < 500000000) (hB : ak.az B) (s : Int) (hs0 : 0 ≤ s ∧ s < 4294967296) : aK Tryz.prog 96 [.int .u32 s, .slice p B.length c] [R] (aR fun v G => v = .int .u32 (aa.qm s B) ∧ G = [R]) := by
 refine ax [(0, _), (1, _)] Tryz.func96 rfl Tryz.ntmps96 rfl rfl ?_
 intro w0 F
 refine rT cT 8 rfl ?_
 refine oV (tl (r := 4294967295 - s) rfl rfl (aa.vo (by omega))) ?_
 refine rO cT 10 rfl ?_
 rw [show ((0 : Nat), Value.int .u32 (4294967295 - s)) = (0, .int .u32 (aa.gk (4294967295 - s) (B.take 0))) from by rw [List.take_zero]; unfold aa.gk; rfl]
 refine dV (fun (i : Nat) => [(0, .int .u32 (aa.gk (4294967295 - s) (B.take i))), (1, .slice p B.length c), (5, .int .i64 (i : Int))]) (fun (i : Nat) => R :: F) (fun (i : Nat) => i ≤ B.length) (fun (i : Nat) => B.length - i) (i1 (0) ?_ (jm ln) (sub (aw .nil) au)) ?_
 ·exact Nat.zero_le _
 intro i
 rintro hi
 refine rL cT 9 rfl ?_
 refine aP rfl (fun h13 => ?_) (fun h13 => ?_)
 ·refine rC cT 5 rfl ?_
  have hv : 0 ≤ (U5.g B (i : Int)) ∧ (U5.g B (i : Int)) < 256 := hB.get i
  have hs := aa.oq (l := B.take i) (s := (4294967295 - s)) (aa.fN hB i) (by omega)
  refine rC cT 4 rfl ?_
  refine oV (xI V.bP (by exact aY hR an)) ?_
  refine oV (xL V.s5 (by exact aY hR an)) ?_
  refine oV (bE V.u5 Tryz.underlying76 rfl (aL.wrap32 (by omega) (by omega))) ?_
  refine oV (oT (r := (aa.eC (aa.gk (4294967295 - s) (B.take i)) (U5.g B (i : Int)))) rfl rfl (aa.vn hs (by omega))) ?_
  refine rO cT 4 rfl ?_
  have hxc := aa.Hs (a := (aa.gk (4294967295 - s) (B.take i))) (b := (U5.g B (i : Int))) hs (by omega)
  refine rC cT 5 rfl ?_
  rw [show ((0 : Nat), Value.int .u32 (aa.eC (aa.gk (4294967295 - s) (B.take i)) (U5.g B (i : Int)))) = (0, .int .u32 (aa.gL 0 (aa.eC (aa.gk (4294967295 - s) (B.take i)) (U5.g B (i : Int))))) from by rw [aa.FD hxc.1]]
  refine dV (fun (k : Nat) => [(0, .int .u32 (aa.gL k (aa.eC (aa.gk (4294967295 - s) (B.take i)) (U5.g B (i : Int))))), (1, .slice p B.length c), (5, .int .i64 (i : Int)), (6, .int .i64 (k : Int))]) (fun (k : Nat) => R :: F) (fun (k : Nat) => k ≤ 8) (fun (k : Nat) => 8 - k) (i1 (0) ?_ (eN ln) (sub (aw .nil) au)) ?_
  ·exact Nat.zero_le _
  intro k
  rintro hk
  refine rL cT 7 rfl ?_
  refine aP rfl (fun h24 => ?_) (fun h24 => ?_)
  ·refine rC cT 5 rfl ?_
   have hk2 := aa.Cj hxc k
   refine rC cT 2 rfl ?_
   refine oV (kb (r := (aa.gL k (aa.eC (aa.gk (4294967295 - s) (B.take i)) (U5.g B (i : Int)))) % 2) rfl rfl (aa.vc hk2)) ?_
   refine rO cT 6 rfl ?_
   refine oV (eu (r := (aa.gL k (aa.eC (aa.gk (4294967295 - s) (B.take i)) (U5.g B (i : Int)))) / 2) rfl rfl (by decide) (aa.ma (n := 1) rfl (by decide) rfl)) ?_
   refine rO cT 9 rfl ?_
   refine aP rfl (fun h32 => ?_) (fun h32 => ?_)
   ·refine rC cT 2 rfl ?_
    refine oV (oT (r := aa.eC ((aa.gL k (aa.eC (aa.gk (4294967295 - s) (B.take i)) (U5.g B (i : Int)))) / 2) 3988292384) rfl rfl (aa.vn (by omega) (by decide))) ?_
    refine cV cT 9 rfl (by omega) ?_
    (rw [← aa.zx (by assumption)]; exact j1 (k + 1) ⟨by omega, by omega⟩ (eN ln) (sub (aw .nil) au))
   ·refine fQ cT 8 rfl (by omega) ?_
    (rw [← aa.xE (by assumption)]; exact j1 (k + 1) ⟨by omega, by omega⟩ (eN ln) (sub (aw .nil) au))
  ·refine rC cT 6 rfl ?_
   obtain rfl : k = 8 := by omega
   refine fQ cT 5 rfl (by omega) ?_
   have ht := aa.w6 (l := B) (s := (4294967295 - s)) (i := i) (by omega)
   rw [show B.getD i 0 = (U5.g B (i : Int)) from rfl] at ht
   rw [aa.Fg, ← ht]
   exact j1 (i + 1) ⟨by omega, by omega⟩ (jm ln) (sub (aw .nil) au)
 ·refine rC cT 6 rfl ?_
  obtain rfl : i = B.length := by omega
  rw [List.take_length]
  have hs := aa.oq (l := B) (s := (4294967295 - s)) hB (by omega)
  refine rC cT 2 rfl ?_
  refine oV (tl (r := 4294967295 - (aa.gk (4294967295 - s) B)) rfl rfl (aa.vo (by omega))) ?_
  refine rO cT 4 rfl ?_
  exact aj (aC rfl) ⟨by unfold aa.qm; rfl, rfl⟩ (sub (aw .nil) au)
set_option maxHeartbeats 2000000 in
theorem Gr (bt : Nat) (kk : List Int) (hk : ak.az kk) (hkl : kk.length < 500000000) (p : Option Addr) (c : Nat) (B : List Int) (R : ab) (hR : ∀ w0 h, R w0 h → aS U5 p B.length B w0 h) (hl : B.length < 500000000) (hB : ak.az B) : aK Tryz.prog 109 [.pointer (some ⟨bt, 0, none⟩), .string (strOfNums kk), .slice p B.length c] [ao bt 175 (CA [] .u32 aa.eW []), R] (aR fun v G => v = .int .u32 (aa.il kk B) ∧ G = [ao bt 175 (CA [] .u32 aa.eW []), R]) := by
 refine ax [(0, _), (1, _), (2, _)] Tryz.func109 rfl Tryz.ntmps109 rfl rfl ?_
 intro w0 F
 have hm := aa.tQ (s := 0) (by decide) hk
 refine rT cT 10 rfl ?_
 refine wE Tryz.underlying9 Tryz.underlying22 Tryz.underlying5 rfl (aa.ba hk) rfl ?_
 intro b10 c10
 refine ai (BE bt (some ⟨b10, 0, none⟩) c10 kk (aS U5 (some ⟨b10, 0, none⟩) kk.length kk) (fun _ _ hh => hh) hkl hk 0 (by decide)) V.LP  rfl (.cons aE (aw .nil)) rfl ?_
 rintro _ _ ⟨rfl, rfl⟩
 refine oV (aG rfl) ?_
 refine ai (BE bt p c B R hR hl hB (aa.qm 0 kk) hm) V.LP  rfl (aw (.cons aE .nil)) rfl ?_
 rintro _ _ ⟨rfl, rfl⟩
 refine rO cT 4 rfl ?_
 exact aj (aC rfl) ⟨by unfold aa.il; rfl, rfl⟩ (sub (bp .nil) cG)
set_option maxHeartbeats 2000000 in
theorem Hq (kk : List Int) (hk : ak.az kk) (hkl : kk.length < 500000000) (p : Option Addr) (c : Nat) (B : List Int) (R : ab) (hR : ∀ w0 h, R w0 h → aS U5 p B.length B w0 h) (hl : B.length < 500000000) (hB : ak.az B) : aK Tryz.prog 66 [.string (strOfNums kk), .slice p B.length c] [R] (aR fun v G => v = .int .u32 (aa.il kk B) ∧ G = [R]) := by
 refine ax [(0, _), (1, _)] Tryz.func66 rfl Tryz.ntmps66 rfl rfl ?_
 intro w0 F
 have hm := aa.tQ (s := 0) (by decide) hk
 refine rT cT 8 rfl ?_
 refine wE Tryz.underlying9 Tryz.underlying22 Tryz.underlying5 rfl (aa.ba hk) rfl ?_
 intro b6 c6
 refine ai (Fu (some ⟨b6, 0, none⟩) c6 kk (aS U5 (some ⟨b6, 0, none⟩) kk.length kk) (fun _ _ hh => hh) hkl hk 0 (by decide)) V.OK  rfl (aw .nil) rfl ?_
 rintro _ _ ⟨rfl, rfl⟩
 refine oV (aG rfl) ?_
 refine ai (Fu p c B R hR hl hB (aa.qm 0 kk) hm) V.OK  rfl (.cons aE .nil) rfl ?_
 rintro _ _ ⟨rfl, rfl⟩
 refine rO cT 4 rfl ?_
 exact aj (aC rfl) ⟨by unfold aa.il; rfl, rfl⟩ (sub (aw .nil) cG)
end Go.Proofs.YtmaiakpjgomnpaaGreat
namespace Go.Proofs.YtmaiakpjgomnpaaGreat
open Go.Sl
theorem V.IZ : aJ Tryz.prog 142 = true := by kernel_rfl
end Go.Proofs.YtmaiakpjgomnpaaGreat
namespace Go.Proofs.YtmaiakpjgomnpaaGreat
open Go.Sl 
theorem dK : dC Tryz.prog ⟨[22], []⟩ = true := by kernel_rfl
attribute [local irreducible] ak.az aa.gL aa.gN aa.eC aa.gk aa.eW aa.iz
theorem FI {l m : List Int} {t : Bool} (hl : ∀ x ∈ l, 0 ≤ x ∧ x < 256) (hm : ∀ x ∈ m, 0 ≤ x ∧ x < 256) (ht : t = decide (l = m)) : ((strOfNums l).toList == (strOfNums m).toList) = t := by
 by_cases h : l = m
 ·rw [ht, decide_eq_true h, h]; exact beq_self_eq_true _
 ·rw [ht, decide_eq_false h]; exact s8 hl hm h
theorem fg {C : Ctx} {E : Env} {L : List ab} {ty : TypeId} {x y : Operand} {t t' : TypeId} {l m : List Int} {r : Bool} (hl : ∀ x ∈ l, 0 ≤ x ∧ x < 256) (hm : ∀ x ∈ m, 0 ≤ x ∧ x < 256) (hx : aq E x = some (.string (strOfNums l))) (hy : aq E y = some (.string (strOfNums m))) (ht : r = decide (l = m)) : cF C (.binOp .eql t x y t') ty E L (.bool r) L := FN hx hy (FI hl hm ht)
theorem wM (x : Int) (hx : 0 ≤ x ∧ x < 256) (t : Bool) (ht : t = decide (aa.kG x)) : aK Tryz.prog 142 [.int .u8 x] [] (aR fun v G => v = .bool t ∧ G = []) := by
 refine ax [(0, _)] Tryz.func142 rfl Tryz.ntmps142 rfl rfl ?_
 intro w0 F
 refine rT dK 5 rfl ?_
 rcases (aa.Km x) with ⟨h1, h2⟩ | ⟨h1, h2⟩ | ⟨h1, h2, h3⟩ | ⟨h1, h2, h3⟩ | ⟨h1, h2⟩
 ·refine rC dK 3 rfl ?_
  refine oV (aU (fq rfl rfl) (by omega)) ?_
  refine rO dK 2 rfl ?_
  refine ae rfl ?_
  refine oV (aU (eG rfl rfl) (by omega)) ?_
  refine rO dK 13 rfl ?_
  (obtain rfl : t = true := ht.trans (decide_eq_true (by unfold aa.kG; omega)); exact aj (G := []) (aC rfl) ⟨rfl, rfl⟩ (sub .nil au))
 ·refine rC dK 3 rfl ?_
  refine oV (aU (fq rfl rfl) (by omega)) ?_
  refine rO dK 2 rfl ?_
  refine ae rfl ?_
  refine oV (aA (eG rfl rfl) (by omega)) ?_
  refine rO dK 3 rfl ?_
  refine ae rfl ?_
  refine oV (aU (fq rfl rfl) (by omega)) ?_
  refine rO dK 2 rfl ?_
  refine ae rfl ?_
  refine oV (aA (eG rfl rfl) (by omega)) ?_
  refine rO dK 6 rfl ?_
  (obtain rfl : t = false := ht.trans (decide_eq_false (by unfold aa.kG; omega)); exact aj (G := []) (aC rfl) ⟨rfl, rfl⟩ (sub .nil au))
 ·refine rC dK 3 rfl ?_
  refine oV (aA (fq rfl rfl) (by omega)) ?_
  refine rO dK 6 rfl ?_
  refine ae rfl ?_
  refine oV (aU (fq rfl rfl) (by omega)) ?_
  refine rO dK 2 rfl ?_
  refine ae rfl ?_
  refine oV (aU (eG rfl rfl) (by omega)) ?_
  refine rO dK 6 rfl ?_
  (obtain rfl : t = true := ht.trans (decide_eq_true (by unfold aa.kG; omega)); exact aj (G := []) (aC rfl) ⟨rfl, rfl⟩ (sub .nil au))
 ·refine rC dK 3 rfl ?_
  refine oV (aA (fq rfl rfl) (by omega)) ?_
  refine rO dK 6 rfl ?_
  refine ae rfl ?_
  refine oV (aU (fq rfl rfl) (by omega)) ?_
  refine rO dK 2 rfl ?_
  refine ae rfl ?_
  refine oV (aA (eG rfl rfl) (by omega)) ?_
  refine rO dK 6 rfl ?_
  (obtain rfl : t = false := ht.trans (decide_eq_false (by unfold aa.kG; omega)); exact aj (G := []) (aC rfl) ⟨rfl, rfl⟩ (sub .nil au))
 ·refine rC dK 3 rfl ?_
  refine oV (aA (fq rfl rfl) (by omega)) ?_
  refine rO dK 6 rfl ?_
  refine ae rfl ?_
  refine oV (aA (fq rfl rfl) (by omega)) ?_
  refine rO dK 9 rfl ?_
  (obtain rfl : t = false := ht.trans (decide_eq_false (by unfold aa.kG; omega)); exact aj (G := []) (aC rfl) ⟨rfl, rfl⟩ (sub .nil au))
set_option maxHeartbeats 1000000 in
theorem kE (kk : List Int) (hk : ak.az kk) (hkl : kk.length < 500000000) (t : Bool) (ht : t = decide (aa.ev kk)) : aK Tryz.prog 107 [.string (strOfNums kk)] [] (aR fun v G => v = .bool t ∧ G = []) := by
 refine ax [(0, _)] Tryz.func107 rfl Tryz.ntmps107 rfl rfl ?_
 intro w0 F
 refine rT dK 9 rfl ?_
 refine oV (tL Tryz.underlying9 rfl (jd kk)) ?_
 refine rO dK 4 rfl ?_
 refine dV (fun (i : Nat) => [(0, .string (strOfNums kk)), (5, .int .i64 (kk.length : Int)), (6, .int .i64 (i : Int))]) (fun (i : Nat) => F) (fun (i : Nat) => i ≤ kk.length ∧ ∀ j, j < i → aa.kG (kk.getD j 0)) (fun (i : Nat) => kk.length - i) (i1 (0) ?_ (jm ln) (sub .nil au)) ?_
 ·exact ⟨Nat.zero_le _, fun j hj => by omega⟩
 intro i
 rintro ⟨hi, hall⟩
 refine rL dK 6 rfl ?_
 refine aP rfl (fun h7 => ?_) (fun h7 => ?_)
 ·refine rC dK 10 rfl ?_
  rcases (Classical.em (aa.kG (kk.getD i 0))) with hl1 | hl1
  ·refine rC dK 4 rfl ?_
   refine oV (rA i Tryz.underlying9 rfl rfl (aa.ba hk) rfl (by omega)) ?_
   refine ai (wM (kk.getD i 0) (hk.get i) true (decide_eq_true hl1).symm) V.IZ  rfl .nil rfl ?_
   rintro _ _ ⟨rfl, rfl⟩
   refine cV dK 11 rfl (by omega) ?_
   refine j1 (i + 1) ?_ (jm ln) (sub .nil au)
   exact ⟨⟨by omega, fun j hj => (Nat.lt_succ_iff_lt_or_eq.1 hj).elim (hall j) (fun e => e ▸ hl1)⟩, by omega⟩
  ·refine rC dK 4 rfl ?_
   refine oV (rA i Tryz.underlying9 rfl rfl (aa.ba hk) rfl (by omega)) ?_
   refine ai (wM (kk.getD i 0) (hk.get i) false (decide_eq_false hl1).symm) V.IZ  rfl .nil rfl ?_
   rintro _ _ ⟨rfl, rfl⟩
   refine rO dK 15 rfl ?_
   obtain rfl : t = false := ht.trans (decide_eq_false (aa.ua hl1 (by omega)))
   exact aj (aC rfl) ⟨rfl, rfl⟩ (sub .nil au)
 ·refine rC dK 8 rfl ?_
  refine oV (tL Tryz.underlying9 rfl (jd kk)) ?_
  refine rO dK 5 rfl ?_
  obtain rfl : i = kk.length := by omega
  rw [aa.Mz ht hall]
  exact aj (aC rfl) ⟨rfl, rfl⟩ (sub .nil au)
set_option maxHeartbeats 1000000 in
theorem lX (p : Option Addr) (c : Nat) (B : List Int) (R : ab) (hR : ∀ w0 h, R w0 h → aS U5 p B.length B w0 h) (hB : ak.az B) (h4 : 4 ≤ B.length) (hcap : B.length ≤ c) : aK Tryz.prog 112 [.slice p B.length c] [R] (aR fun v G => v = .int .i64 (aL.cW B) ∧ G = [R]) := by
 refine ax [(0, _)] Tryz.func112 rfl Tryz.ntmps112 rfl rfl ?_
 intro w0 F
 have hT : ∀ w0 h, R w0 h → aS U5 p 4 (B.take 4) w0 h := lY (cap := 0) hR 4 h4
 refine rT dK 14 rfl ?_
 refine oV (kn 4 c V.bP rfl ⟨_, rfl⟩ rfl (by omega) (by omega)) ?_
 refine rO dK 5 rfl ?_
 refine dV (fun (i : Nat) => [(3, .int .i64 (aa.ac B i)), (7, .slice p 4 c), (8, .int .i64 4), (9, .int .i64 (i : Int))]) (fun (i : Nat) => R :: F) (fun (i : Nat) => i ≤ 4) (fun (i : Nat) => 4 - i) (i1 (0) ?_ (eN ln) (sub (aw .nil) au)) ?_
 ·exact Nat.zero_le _
 intro i
 rintro hi
 refine rL dK 6 rfl ?_
 refine aP rfl (fun h10 => ?_) (fun h10 => ?_)
 ·refine rC dK 5 rfl ?_
  have hv := hB.get i
  have ha := aa.NY hB (i := i) (by omega)
  refine bo ?_
  refine oV (xI V.bP (by exact aY hT an)) ?_
  refine oV (xL V.s5 (by exact aY hT an)) ?_
  rw [show U5.g (B.take 4) (i : Int) = (B.getD i 0) from aa.Cx (by omega)]
  refine rO dK 5 rfl ?_
  refine oV (fW (r := (aa.ac B i) * 256) rfl rfl (by decide) (aL.uH (n := 8) rfl (by decide) rfl (by omega) (by omega))) ?_
  refine oV (aG rfl) ?_
  refine oV (bE V.u5 Tryz.underlying3 rfl wI) ?_
  refine oV (my (r := (aa.ac B i) * 256 + (B.getD i 0)) rfl rfl (aL.pg (u := (aa.ac B i)) (n := 8) rfl ha.1 (by omega) (by omega))) ?_
  refine cV dK 8 rfl (by omega) ?_
  refine j1 (i + 1) ?_ (eN ln) (sub (aw .nil) au)
  exact ⟨by omega, by omega⟩
 ·refine rC dK 6 rfl ?_
  obtain rfl : i = 4 := by omega
  rw [aa.ON]
  refine rC dK 6 rfl ?_
  exact aj (aC rfl) ⟨rfl, rfl⟩ (sub (aw .nil) au)
theorem LK  : aK Tryz.prog 76 [] [] (aR fun v G => ∃ b, v = .slice (some ⟨b, 0, none⟩) 8 8 ∧ G = [Row U5 (some ⟨b, 0, none⟩) 8 8 aa.fx]) := by
 refine ax [] Tryz.func76 rfl Tryz.ntmps76 rfl rfl ?_
 intro w0 F
 refine rT dK 7 rfl ?_
 refine ef (U5) aa.fx V.bP V.z5 rfl rfl rfl rfl rfl rfl ?_
 intro b1
 refine rO dK 4 rfl ?_
 exact aj (aC rfl) ⟨b1, rfl, rfl⟩ (sub (aw .nil) au)
set_option maxHeartbeats 1000000 in
theorem G3 (p : Option Addr) (c : Nat) (B : List Int) (R : ab) (hR : ∀ w0 h, R w0 h → aS U5 p B.length B w0 h) (hB : ak.az B) (p2 : Option Addr) (c2 : Nat) (D : List Int) (R2 : ab) (hR2 : ∀ w0 h, R2 w0 h → aS U5 p2 D.length D w0 h) (hD : ak.az D) (t : Bool) (ht : t = decide (B = D)) : aK Tryz.prog 110 [.slice p B.length c, .slice p2 D.length c2] [R, R2] (aR fun v G => v = .bool t ∧ G = [R, R2]) := by
 refine ax [(0, _), (1, _)] Tryz.func110 rfl Tryz.ntmps110 rfl rfl ?_
 intro w0 F
 refine rT dK 8 rfl ?_
 refine oV (l9 (T := 5) Tryz.underlying22 Tryz.underlying5 Tryz.underlying9 rfl (by exact aY hR an)) ?_
 refine oV (aG rfl) ?_
 refine oV (l9 (T := 5) Tryz.underlying22 Tryz.underlying5 Tryz.underlying9 rfl (by exact aY hR2 bY)) ?_
 refine oV (FN rfl rfl (FI (aa.ba hB) (aa.ba hD) ht)) ?_
 refine rO dK 4 rfl ?_
 exact aj (aC rfl) ⟨rfl, rfl⟩ (sub (bp .nil) au)
end Go.Proofs.YtmaiakpjgomnpaaGreat
namespace Go.Proofs.YtmaiakpjgomnpaaGreat
open Go.Sl
theorem V.jW : gZ Tryz.prog 88 = some 2 := by kernel_rfl
theorem V.oM : aJ Tryz.prog 107 = true := by kernel_rfl
theorem V.Ms : aJ Tryz.prog 109 = true := by kernel_rfl
theorem V.PQ : aJ Tryz.prog 110 = true := by kernel_rfl
theorem V.sd : aJ Tryz.prog 112 = true := by kernel_rfl
theorem V.ux : fC Tryz.prog 88 = some [(0, 1), (1, 1)] := by kernel_rfl
theorem V.lx : dH Tryz.prog 88 = some ([.string .empty, .slice none 0 0]) := by kernel_rfl
end Go.Proofs.YtmaiakpjgomnpaaGreat
namespace Go.Proofs.YtmaiakpjgomnpaaGreat
open Go.Sl 
theorem cR : dC Tryz.prog ⟨[22], []⟩ = true := by kernel_rfl
attribute [local irreducible] ak.az aa.gL aa.gN aa.eC aa.gk aa.eW aa.iz aa.il aa.first
section
variable {C : Ctx} {E : Env} {L : List ab} {ty : TypeId}
theorem o5 {t u u2 T n b T' : Nat} {cs : List Value} {v2 v3 : Value} (hs : gZ C.P T = some n) (h1 : E.get t = some (.pointer (some ⟨b, 0, none⟩))) (hm : ao b T' cs ∈ L) (hn : cs.length = n) (h2 : E.get u = some v2) (h3 : E.get u2 = some v3) : lA C #[.cell t T, .tmp u, .tmp u2] E L (.tuple #[.agg cs.toArray, v2, v3]) := fun fn a w hr ha hi => by
 obtain ⟨g1, g2⟩ := lZ hs w
 obtain ⟨F, hF⟩ := hi.mem hm
 have := run_loadCells_list (P := C.P) w ⟨b, 0, none⟩ cs (fun j v hj => by rw [Addr.fY, hF.jh, ← hj]; simp)
 rw [hn] at this
 simp [results, hr, ha.get _ _ h1, ha.get _ _ h2, ha.get _ _ h3, asAddr, loadVar, g1, g2, this]
end
theorem uP (p : Option Addr) (c n : Nat) (L : List Int) (R : ab) (hR : ∀ w0 h, R w0 h → aS U5 p n L w0 h) (hn : L.length = n) (hB : ak.az L) (h4 : 4 ≤ n) (hcap : n ≤ c) : aK Tryz.prog 112 [.slice p n c] [R] (aR fun v G => v = .int .i64 (aL.cW L) ∧ G = [R]) := by
 subst hn; exact lX p c L R hR hB h4 hcap
theorem DV (p : Option Addr) (c n : Nat) (L : List Int) (R : ab) (hR : ∀ w0 h, R w0 h → aS U5 p n L w0 h) (hn : L.length = n) (hB : ak.az L) (p2 : Option Addr) (c2 n2 : Nat) (D : List Int) (R2 : ab) (hR2 : ∀ w0 h, R2 w0 h → aS U5 p2 n2 D w0 h) (hn2 : D.length = n2) (hD : ak.az D) (t : Bool) (ht : t = decide (L = D)) : aK Tryz.prog 110 [.slice p n c, .slice p2 n2 c2] [R, R2] (aR fun v G => v = .bool t ∧ G = [R, R2]) := by
 subst hn; subst hn2; exact G3 p c L R hR hB p2 c2 D R2 hR2 hD t ht
theorem xF (bt : Nat) (kk : List Int) (hk : ak.az kk) (hkl : kk.length < 500000000) (p : Option Addr) (c n : Nat) (L : List Int) (R : ab) (hR : ∀ w0 h, R w0 h → aS U5 p n L w0 h) (hn : L.length = n) (hl : n < 500000000) (hB : ak.az L) : aK Tryz.prog 109 [.pointer (some ⟨bt, 0, none⟩), .string (strOfNums kk), .slice p n c] [ao bt 175 (CA [] .u32 aa.eW []), R] (aR fun v G => v = .int .u32 (aa.il kk L) ∧ G = [ao bt 175 (CA [] .u32 aa.eW []), R]) := by
 subst hn; exact Gr bt kk hk hkl p c L R hR hl hB
theorem E4 (kk : List Int) (hk : ak.az kk) (hkl : kk.length < 500000000) (p : Option Addr) (c n : Nat) (L : List Int) (R : ab) (hR : ∀ w0 h, R w0 h → aS U5 p n L w0 h) (hn : L.length = n) (hl : n < 500000000) (hB : ak.az L) : aK Tryz.prog 66 [.string (strOfNums kk), .slice p n c] [R] (aR fun v G => v = .int .u32 (aa.il kk L) ∧ G = [R]) := by
 subst hn; exact Hq kk hk hkl p c L R hR hl hB
theorem DU (p : Option Addr) (c n : Nat) (L : List Int) (R : ab) (hR : ∀ w0 h, R w0 h → aS U5 p n L w0 h) (hn : L.length = n) (hl : n < 500000000) : aK Tryz.prog 91 [.slice p n c] [R] (aR fun v G => ∃ q cq, v = .slice q n cq ∧ G = [Row U5 q n cq L, R]) := by
 subst hn; exact ox p c L R hR hl
set_option maxHeartbeats 1000000 in
theorem DA (p : Option Addr) (c : Nat) (B : List Int) (R : ab) (hR : ∀ w0 h, R w0 h → aS U5 p B.length B w0 h) (hB : ak.az B) (hcap : B.length ≤ c) (p2 : Option Addr) (c2 : Nat) (D : List Int) (R2 : ab) (hR2 : ∀ w0 h, R2 w0 h → aS U5 p2 D.length D w0 h) (hD : ak.az D) (hlen : D.length ≤ B.length) (t : Bool) (ht : t = decide (B.take D.length = D)) : aK Tryz.prog 77 [.slice p B.length c, .slice p2 D.length c2] [R, R2] (aR fun v G => v = .bool t ∧ G = [R, R2]) := by
 refine ax [(0, _), (1, _)] Tryz.func77 rfl Tryz.ntmps77 rfl rfl ?_
 intro w0 F
 refine rT cR 11 rfl ?_
 refine oV (aU (fq rfl rfl) (by omega)) ?_
 refine rO cR 4 rfl ?_
 refine ae rfl ?_
 refine oV (kn D.length _ V.bP rfl ⟨_, rfl⟩ rfl (by omega) (by omega)) ?_
 refine ae rfl ?_
 refine oV (aG rfl) ?_
 refine ae rfl ?_
 refine ai (DV p c D.length (B.take D.length) R (lY (cap := 0) hR D.length hlen) (by rw [List.length_take]; omega) (aa.fN hB _) p2 c2 D.length D R2 hR2 rfl hD t ht) V.PQ  rfl (bp .nil) rfl ?_
 rintro _ _ ⟨rfl, rfl⟩
 refine rO cR 5 rfl ?_
 exact aj (aC rfl) ⟨rfl, rfl⟩ (sub (bp .nil) au)
set_option maxHeartbeats 4000000 in
theorem yq (bt : Nat) (p : Option Addr) (c : Nat) (B : List Int) (R : ab) (hR : ∀ w0 h, R w0 h → aS U5 p B.length B w0 h) (hl : B.length < 500000000) (hB : ak.az B) (hcap : B.length ≤ c) : aK Tryz.prog 79 [.slice p B.length c, .pointer (some ⟨bt, 0, none⟩)] [ao bt 175 (CA [] .u32 aa.eW []), R] (aR fun v G => (∃ e, aa.first B = .error e ∧ v = .tuple #[.agg #[.string ByteArray.empty, .slice none 0 0], .int .i64 0, .int .i64 e] ∧ G = [ao bt 175 (CA [] .u32 aa.eW []), R]) ∨ (∃ x q cq, aa.first B = .ok x ∧ v = .tuple #[.agg #[.string (strOfNums x.k), .slice q x.d.length cq], .int .i64 ((12 + x.d.length : Nat) : Int), .int .i64 0] ∧ G = [Row U5 q x.d.length cq x.d, ao bt 175 (CA [] .u32 aa.eW []), R])) := by
 refine ax [(0, _), (1, _)] Tryz.func79 rfl Tryz.ntmps79 rfl rfl ?_
 intro w0 F
 refine rT cR 2 rfl ?_
 refine cB V.lx rfl ?_
 intro b4
 refine rO cR 4 rfl ?_
 rcases (aa.xd hB) with ⟨h12, hf⟩ | ⟨n, h12, hn, hnb, hbig, hf⟩ | ⟨n, h12, hn, hnb, hnm, hf⟩ | ⟨n, h12, hn, hnb, hnm, hlt, hf⟩ | ⟨n, h12, hn, hnb, hnm, hge, hsum, hf⟩ | ⟨n, h12, hn, hnb, hnm, hge, hsum, hf⟩
 ·refine rC cR 5 rfl ?_
  refine oV (aU (bD rfl rfl) (by omega)) ?_
  refine rO cR 5 rfl ?_
  refine oV (bV V.ux V.lx rfl (cs := [.string ByteArray.empty, .slice none 0 0]) rfl) ?_
  refine aQ (aD V.jW rfl rfl (us := [_, _]) rfl rfl (by exact cZ) (by exact Nat.le_of_ble_eq_true rfl) rfl) ?_
  refine rO cR 6 rfl ?_
  exact aj (o5 V.jW rfl an rfl rfl rfl) (.inl ⟨2, hf, rfl, rfl⟩) (sub (.cons aE (.cons aE .nil)) cG)
 ·refine rC cR 5 rfl ?_
  refine oV (aA (bD rfl rfl) (by omega)) ?_
  refine rO cR 6 rfl ?_
  have hS : ∀ w0 h, R w0 h → aS U5 (eo p 4 c 1) (8 - 4) ((B.drop 4).take 4) w0 h := fun w0 h hh => (hR w0 h hh).sub 4 8 c (by decide) (by omega) (by omega)
  refine wN [pz 0 [] [0], pz 1 [0] [], pz 0 [] [0], pz 4 [2] [], pz 12 [3] [], pz 3 [1] [], pz 63 [4] []] [⟨fun y => ao b4 88 [.string ByteArray.empty, .slice none 0 0], none, none, []⟩, ⟨fun y => ao bt 175 (CA [] .u32 aa.eW []), none, none, []⟩, ⟨fun y => R, none, none, [1, 4]⟩] F V.mixed ?_
  refine nM ?_
  refine nE (fun y FF hA => bM (Post := [R]) (lX p c B R hR hB (by omega) hcap) V.sd rfl (aw .nil) (fun v G h => by rcases h with ⟨rfl, rfl⟩; exact ⟨rfl, .refl _⟩)) ?_
  refine nM ?_
  refine nV (fun y hA L => dW 4 8 _ V.bP rfl ⟨_, rfl⟩ ⟨_, rfl⟩ rfl (by omega) (by omega) (by omega)) ?_
  refine nR (fun y FF hA => l9 (T := 5) Tryz.underlying22 Tryz.underlying5 Tryz.underlying9 rfl (by exact aY hS an)) ?_
  iterate 2 refine nA ?_
  refine aX ?_
  intro y hA
  clear hA
  refine bu ?_
  refine cy _ (.cons (d := 0) rfl (.cons (d := 1) rfl (.cons (d := 4) rfl (.cons (d := 7) rfl (.cons (d := 8) rfl (.nil _)))))) ?_
  refine bR (M := ao b4 88 [.string ByteArray.empty, .slice none 0 0] :: ao bt 175 (CA [] .u32 aa.eW []) :: R :: F) (fun _ _ h => h) ?_
  refine rC cR 3 rfl ?_
  rw [hn]
  refine rC cR 2 rfl ?_
  refine oV (aU (bj rfl rfl) (by omega)) ?_
  refine rO cR 11 rfl ?_
  refine oV (bV V.ux V.lx rfl (cs := [.string ByteArray.empty, .slice none 0 0]) rfl) ?_
  refine aQ (aD V.jW rfl rfl (us := [_, _]) rfl rfl (by exact cZ) (by exact Nat.le_of_ble_eq_true rfl) rfl) ?_
  refine rO cR 7 rfl ?_
  exact aj (o5 V.jW rfl an rfl rfl rfl) (.inl ⟨4, hf, rfl, rfl⟩) (sub (.cons aE (.cons aE .nil)) cG)
 ·refine rC cR 5 rfl ?_
  refine oV (aA (bD rfl rfl) (by omega)) ?_
  refine rO cR 6 rfl ?_
  have hS : ∀ w0 h, R w0 h → aS U5 (eo p 4 c 1) (8 - 4) ((B.drop 4).take 4) w0 h := fun w0 h hh => (hR w0 h hh).sub 4 8 c (by decide) (by omega) (by omega)
  refine wN [pz 0 [] [0], pz 1 [0] [], pz 0 [] [0], pz 4 [2] [], pz 12 [3] [], pz 3 [1] [], pz 63 [4] []] [⟨fun y => ao b4 88 [.string ByteArray.empty, .slice none 0 0], none, none, []⟩, ⟨fun y => ao bt 175 (CA [] .u32 aa.eW []), none, none, []⟩, ⟨fun y => R, none, none, [1, 4]⟩] F V.mixed ?_
  refine nM ?_
  refine nE (fun y FF hA => bM (Post := [R]) (lX p c B R hR hB (by omega) hcap) V.sd rfl (aw .nil) (fun v G h => by rcases h with ⟨rfl, rfl⟩; exact ⟨rfl, .refl _⟩)) ?_
  refine nM ?_
  refine nV (fun y hA L => dW 4 8 _ V.bP rfl ⟨_, rfl⟩ ⟨_, rfl⟩ rfl (by omega) (by omega) (by omega)) ?_
  refine nR (fun y FF hA => l9 (T := 5) Tryz.underlying22 Tryz.underlying5 Tryz.underlying9 rfl (by exact aY hS an)) ?_
  iterate 2 refine nA ?_
  refine aX ?_
  intro y hA
  clear hA
  refine bu ?_
  refine cy _ (.cons (d := 0) rfl (.cons (d := 1) rfl (.cons (d := 4) rfl (.cons (d := 7) rfl (.cons (d := 8) rfl (.nil _)))))) ?_
  refine bR (M := ao b4 88 [.string ByteArray.empty, .slice none 0 0] :: ao bt 175 (CA [] .u32 aa.eW []) :: R :: F) (fun _ _ h => h) ?_
  refine rC cR 3 rfl ?_
  rw [hn]
  refine rC cR 2 rfl ?_
  refine oV (aA (bj rfl rfl) (by omega)) ?_
  refine rO cR 2 rfl ?_
  refine ae rfl ?_
  refine ai (kE ((B.drop 4).take 4) (aa.fN (aa.ej hB 4) 4) (by rw [aa.iB (by omega)]; decide) false (decide_eq_false hnm).symm) V.oM  rfl .nil rfl ?_
  rintro _ _ ⟨rfl, rfl⟩
  refine rO cR 8 rfl ?_
  refine oV (bV V.ux V.lx rfl (cs := [.string ByteArray.empty, .slice none 0 0]) rfl) ?_
  refine aQ (aD V.jW rfl rfl (us := [_, _]) rfl rfl (by exact cZ) (by exact Nat.le_of_ble_eq_true rfl) rfl) ?_
  refine rO cR 7 rfl ?_
  exact aj (o5 V.jW rfl an rfl rfl rfl) (.inl ⟨4, hf, rfl, rfl⟩) (sub (.cons aE (.cons aE .nil)) cG)
 ·refine rC cR 5 rfl ?_
  refine oV (aA (bD rfl rfl) (by omega)) ?_
  refine rO cR 6 rfl ?_
  have hS : ∀ w0 h, R w0 h → aS U5 (eo p 4 c 1) (8 - 4) ((B.drop 4).take 4) w0 h := fun w0 h hh => (hR w0 h hh).sub 4 8 c (by decide) (by omega) (by omega)
  refine wN [pz 0 [] [0], pz 1 [0] [], pz 0 [] [0], pz 4 [2] [], pz 12 [3] [], pz 3 [1] [], pz 63 [4] []] [⟨fun y => ao b4 88 [.string ByteArray.empty, .slice none 0 0], none, none, []⟩, ⟨fun y => ao bt 175 (CA [] .u32 aa.eW []), none, none, []⟩, ⟨fun y => R, none, none, [1, 4]⟩] F V.mixed ?_
  refine nM ?_
  refine nE (fun y FF hA => bM (Post := [R]) (lX p c B R hR hB (by omega) hcap) V.sd rfl (aw .nil) (fun v G h => by rcases h with ⟨rfl, rfl⟩; exact ⟨rfl, .refl _⟩)) ?_
  refine nM ?_
  refine nV (fun y hA L => dW 4 8 _ V.bP rfl ⟨_, rfl⟩ ⟨_, rfl⟩ rfl (by omega) (by omega) (by omega)) ?_
  refine nR (fun y FF hA => l9 (T := 5) Tryz.underlying22 Tryz.underlying5 Tryz.underlying9 rfl (by exact aY hS an)) ?_
  iterate 2 refine nA ?_
  refine aX ?_
  intro y hA
  clear hA
  refine bu ?_
  refine cy _ (.cons (d := 0) rfl (.cons (d := 1) rfl (.cons (d := 4) rfl (.cons (d := 7) rfl (.cons (d := 8) rfl (.nil _)))))) ?_
  refine bR (M := ao b4 88 [.string ByteArray.empty, .slice none 0 0] :: ao bt 175 (CA [] .u32 aa.eW []) :: R :: F) (fun _ _ h => h) ?_
  refine rC cR 3 rfl ?_
  rw [hn]
  refine rC cR 2 rfl ?_
  refine oV (aA (bj rfl rfl) (by omega)) ?_
  refine rO cR 2 rfl ?_
  refine ae rfl ?_
  refine ai (kE ((B.drop 4).take 4) (aa.fN (aa.ej hB 4) 4) (by rw [aa.iB (by omega)]; decide) true (decide_eq_true hnm).symm) V.oM  rfl .nil rfl ?_
  rintro _ _ ⟨rfl, rfl⟩
  refine cV cR 12 rfl (by omega) ?_
  refine oV (aU (bj rfl rfl) (by omega)) ?_
  refine rO cR 6 rfl ?_
  refine oV (bV V.ux V.lx rfl (cs := [.string ByteArray.empty, .slice none 0 0]) rfl) ?_
  refine aQ (aD V.jW rfl rfl (us := [_, _]) rfl rfl (by exact cZ) (by exact Nat.le_of_ble_eq_true rfl) rfl) ?_
  refine rO cR 7 rfl ?_
  exact aj (o5 V.jW rfl an rfl rfl rfl) (.inl ⟨2, hf, rfl, rfl⟩) (sub (.cons aE (.cons aE .nil)) cG)
 ·refine rC cR 5 rfl ?_
  refine oV (aA (bD rfl rfl) (by omega)) ?_
  refine rO cR 6 rfl ?_
  have hS : ∀ w0 h, R w0 h → aS U5 (eo p 4 c 1) (8 - 4) ((B.drop 4).take 4) w0 h := fun w0 h hh => (hR w0 h hh).sub 4 8 c (by decide) (by omega) (by omega)
  refine wN [pz 0 [] [0], pz 1 [0] [], pz 0 [] [0], pz 4 [2] [], pz 12 [3] [], pz 3 [1] [], pz 63 [4] []] [⟨fun y => ao b4 88 [.string ByteArray.empty, .slice none 0 0], none, none, []⟩, ⟨fun y => ao bt 175 (CA [] .u32 aa.eW []), none, none, []⟩, ⟨fun y => R, none, none, [1, 4]⟩] F V.mixed ?_
  refine nM ?_
  refine nE (fun y FF hA => bM (Post := [R]) (lX p c B R hR hB (by omega) hcap) V.sd rfl (aw .nil) (fun v G h => by rcases h with ⟨rfl, rfl⟩; exact ⟨rfl, .refl _⟩)) ?_
  refine nM ?_
  refine nV (fun y hA L => dW 4 8 _ V.bP rfl ⟨_, rfl⟩ ⟨_, rfl⟩ rfl (by omega) (by omega) (by omega)) ?_
  refine nR (fun y FF hA => l9 (T := 5) Tryz.underlying22 Tryz.underlying5 Tryz.underlying9 rfl (by exact aY hS an)) ?_
  iterate 2 refine nA ?_
  refine aX ?_
  intro y hA
  clear hA
  refine bu ?_
  refine cy _ (.cons (d := 0) rfl (.cons (d := 1) rfl (.cons (d := 4) rfl (.cons (d := 7) rfl (.cons (d := 8) rfl (.nil _)))))) ?_
  refine bR (M := ao b4 88 [.string ByteArray.empty, .slice none 0 0] :: ao bt 175 (CA [] .u32 aa.eW []) :: R :: F) (fun _ _ h => h) ?_
  refine rC cR 3 rfl ?_
  rw [hn]
  refine rC cR 2 rfl ?_
  refine oV (aA (bj rfl rfl) (by omega)) ?_
  refine rO cR 2 rfl ?_
  refine ae rfl ?_
  refine ai (kE ((B.drop 4).take 4) (aa.fN (aa.ej hB 4) 4) (by rw [aa.iB (by omega)]; decide) true (decide_eq_true hnm).symm) V.oM  rfl .nil rfl ?_
  rintro _ _ ⟨rfl, rfl⟩
  refine cV cR 12 rfl (by omega) ?_
  refine oV (aA (bj rfl rfl) (by omega)) ?_
  refine rO cR 8 rfl ?_
  have hk4 := aa.fN (aa.ej hB 4) 4
  have xQ := aa.fN (aa.ej hB 8) n
  have hb8 := aa.ej hB (8 + n)
  have hn4 := aa.od hb8
  have hX8 : ∀ w0 h, R w0 h → aS U5 (eo p 8 c 1) (8 + n - 8) ((B.drop 8).take n) w0 h := fun w0 h hh => by have h1 := (hR w0 h hh).sub 8 (8 + n) c (by omega) (by omega) (by omega); rwa [Nat.add_sub_cancel_left] at h1 ⊢
  have hXn : ∀ w0 h, R w0 h → aS U5 (eo p (8 + n) c 1) (B.length - (8 + n)) (B.drop (8 + n)) w0 h := fun w0 h hh => gW (c := U5) hR rfl (8 + n) c (by omega) hcap w0 h hh
  refine rC cR 3 rfl ?_
  refine oV (cN (v := .int .i64 ((8 + n : Nat) : Int)) (dz rfl rfl wI) (by congr 1)) ?_
  refine oV (dW 8 (8 + n) c V.bP rfl ⟨_, rfl⟩ ⟨_, rfl⟩ rfl (by omega) (by omega) (by omega)) ?_
  refine rO cR 8 rfl ?_
  refine oV (cN (v := .int .i64 ((8 + n : Nat) : Int)) (dz rfl rfl wI) (by congr 1)) ?_
  refine oV (dW (8 + n) B.length c V.bP rfl ⟨_, rfl⟩ ⟨rfl, rfl⟩ rfl (by omega) (by omega) (by omega)) ?_
  refine ai (uP (eo p (8 + n) c 1) (c - (8 + n)) (B.length - (8 + n)) (B.drop (8 + n)) R hXn List.length_drop hb8 (by omega) (by omega)) V.sd  rfl (.cons bK .nil) rfl ?_
  rintro _ _ ⟨rfl, rfl⟩
  refine oV (bE V.u3 Tryz.underlying76 rfl (aL.wrap32 hn4.1 hn4.2)) ?_
  refine rO cR 3 rfl ?_
  refine ai (xF bt ((B.drop 4).take 4) hk4 (by rw [aa.iB (by omega)]; decide) (eo p 8 c 1) (c - 8) (8 + n - 8) ((B.drop 8).take n) R hX8 (by rw [aa.iB (by omega)]; omega) (by omega) xQ) V.Ms  rfl (.cons bK (aw .nil)) rfl ?_
  rintro _ _ ⟨rfl, rfl⟩
  refine oV (aA (bG rfl rfl) (fun h => h hsum)) ?_
  refine rO cR 9 rfl ?_
  refine ai (DU (eo p 8 c 1) (c - 8) (8 + n - 8) ((B.drop 8).take n) R hX8 (by rw [aa.iB (by omega)]; omega) (by omega)) V.zc  rfl (.cons aE .nil) rfl ?_
  rintro _ _ ⟨q53, c53, rfl, rfl⟩
  refine oV (bV V.ux V.lx rfl (cs := [.string (strOfNums ((B.drop 4).take 4)), .slice q53 (8 + n - 8) c53]) rfl) ?_
  refine oV (aG rfl) ?_
  refine oV (cN (v := .int .i64 ((12 + n : Nat) : Int)) (dz rfl rfl wI) (by congr 1)) ?_
  refine aQ (aD V.jW rfl rfl (us := [_, _]) rfl rfl (by exact yh) (by exact Nat.le_of_ble_eq_true rfl) rfl) ?_
  refine rO cR 5 rfl ?_
  have hdl := aa.iB (l := B) (i := 8) (n := n) (by omega)
  have e8 : 8 + n - 8 = ((B.drop 8).take n).length := by rw [hdl]; omega
  rw [e8, show (12 + n : Nat) = 12 + ((B.drop 8).take n).length from by rw [hdl]]
  exact aj (o5 V.jW rfl eL rfl rfl rfl) (.inr ⟨_, _, _, hf, rfl, rfl⟩) (sub (aw (.cons aE (.cons dX .nil))) cG)
 ·refine rC cR 5 rfl ?_
  refine oV (aA (bD rfl rfl) (by omega)) ?_
  refine rO cR 6 rfl ?_
  have hS : ∀ w0 h, R w0 h → aS U5 (eo p 4 c 1) (8 - 4) ((B.drop 4).take 4) w0 h := fun w0 h hh => (hR w0 h hh).sub 4 8 c (by decide) (by omega) (by omega)
  refine wN [pz 0 [] [0], pz 1 [0] [], pz 0 [] [0], pz 4 [2] [], pz 12 [3] [], pz 3 [1] [], pz 63 [4] []] [⟨fun y => ao b4 88 [.string ByteArray.empty, .slice none 0 0], none, none, []⟩, ⟨fun y => ao bt 175 (CA [] .u32 aa.eW []), none, none, []⟩, ⟨fun y => R, none, none, [1, 4]⟩] F V.mixed ?_
  refine nM ?_
  refine nE (fun y FF hA => bM (Post := [R]) (lX p c B R hR hB (by omega) hcap) V.sd rfl (aw .nil) (fun v G h => by rcases h with ⟨rfl, rfl⟩; exact ⟨rfl, .refl _⟩)) ?_
  refine nM ?_
  refine nV (fun y hA L => dW 4 8 _ V.bP rfl ⟨_, rfl⟩ ⟨_, rfl⟩ rfl (by omega) (by omega) (by omega)) ?_
  refine nR (fun y FF hA => l9 (T := 5) Tryz.underlying22 Tryz.underlying5 Tryz.underlying9 rfl (by exact aY hS an)) ?_
  iterate 2 refine nA ?_
  refine aX ?_
  intro y hA
  clear hA
  refine bu ?_
  refine cy _ (.cons (d := 0) rfl (.cons (d := 1) rfl (.cons (d := 4) rfl (.cons (d := 7) rfl (.cons (d := 8) rfl (.nil _)))))) ?_
  refine bR (M := ao b4 88 [.string ByteArray.empty, .slice none 0 0] :: ao bt 175 (CA [] .u32 aa.eW []) :: R :: F) (fun _ _ h => h) ?_
  refine rC cR 3 rfl ?_
  rw [hn]
  refine rC cR 2 rfl ?_
  refine oV (aA (bj rfl rfl) (by omega)) ?_
  refine rO cR 2 rfl ?_
  refine ae rfl ?_
  refine ai (kE ((B.drop 4).take 4) (aa.fN (aa.ej hB 4) 4) (by rw [aa.iB (by omega)]; decide) true (decide_eq_true hnm).symm) V.oM  rfl .nil rfl ?_
  rintro _ _ ⟨rfl, rfl⟩
  refine cV cR 12 rfl (by omega) ?_
  refine oV (aA (bj rfl rfl) (by omega)) ?_
  refine rO cR 8 rfl ?_
  have hk4 := aa.fN (aa.ej hB 4) 4
  have xQ := aa.fN (aa.ej hB 8) n
  have hb8 := aa.ej hB (8 + n)
  have hn4 := aa.od hb8
  have hX8 : ∀ w0 h, R w0 h → aS U5 (eo p 8 c 1) (8 + n - 8) ((B.drop 8).take n) w0 h := fun w0 h hh => by have h1 := (hR w0 h hh).sub 8 (8 + n) c (by omega) (by omega) (by omega); rwa [Nat.add_sub_cancel_left] at h1 ⊢
  have hXn : ∀ w0 h, R w0 h → aS U5 (eo p (8 + n) c 1) (B.length - (8 + n)) (B.drop (8 + n)) w0 h := fun w0 h hh => gW (c := U5) hR rfl (8 + n) c (by omega) hcap w0 h hh
  refine rC cR 3 rfl ?_
  refine oV (cN (v := .int .i64 ((8 + n : Nat) : Int)) (dz rfl rfl wI) (by congr 1)) ?_
  refine oV (dW 8 (8 + n) c V.bP rfl ⟨_, rfl⟩ ⟨_, rfl⟩ rfl (by omega) (by omega) (by omega)) ?_
  refine rO cR 8 rfl ?_
  refine oV (cN (v := .int .i64 ((8 + n : Nat) : Int)) (dz rfl rfl wI) (by congr 1)) ?_
  refine oV (dW (8 + n) B.length c V.bP rfl ⟨_, rfl⟩ ⟨rfl, rfl⟩ rfl (by omega) (by omega) (by omega)) ?_
  refine ai (uP (eo p (8 + n) c 1) (c - (8 + n)) (B.length - (8 + n)) (B.drop (8 + n)) R hXn List.length_drop hb8 (by omega) (by omega)) V.sd  rfl (.cons bK .nil) rfl ?_
  rintro _ _ ⟨rfl, rfl⟩
  refine oV (bE V.u3 Tryz.underlying76 rfl (aL.wrap32 hn4.1 hn4.2)) ?_
  refine rO cR 3 rfl ?_
  refine ai (xF bt ((B.drop 4).take 4) hk4 (by rw [aa.iB (by omega)]; decide) (eo p 8 c 1) (c - 8) (8 + n - 8) ((B.drop 8).take n) R hX8 (by rw [aa.iB (by omega)]; omega) (by omega) xQ) V.Ms  rfl (.cons bK (aw .nil)) rfl ?_
  rintro _ _ ⟨rfl, rfl⟩
  refine oV (aU (bG rfl rfl) hsum) ?_
  refine rO cR 5 rfl ?_
  refine oV (bV V.ux V.lx rfl (cs := [.string ByteArray.empty, .slice none 0 0]) rfl) ?_
  refine aQ (aD V.jW rfl rfl (us := [_, _]) rfl rfl (by exact nm) (by exact Nat.le_of_ble_eq_true rfl) rfl) ?_
  refine rO cR 6 rfl ?_
  exact aj (o5 V.jW rfl cx rfl rfl rfl) (.inl ⟨5, hf, rfl, rfl⟩) (sub (bp .nil) cG)
end Go.Proofs.YtmaiakpjgomnpaaGreat
namespace Go.Proofs.YtmaiakpjgomnpaaGreat
open Go.Sl
theorem V.Qu : aJ Tryz.prog 76 = true := by kernel_rfl
theorem V.Oz : aJ Tryz.prog 77 = true := by kernel_rfl
theorem V.QJ : aJ Tryz.prog 78 = true := by kernel_rfl
theorem V.Fm : aJ Tryz.prog 79 = true := by kernel_rfl
theorem V.nH : bW Tryz.prog 88 0 = some 0 := by kernel_rfl
theorem V.s9 : dm Tryz.prog 9 = true := by kernel_rfl
theorem V.gA : sliceB Tryz.prog 84 = some (88, 2, 40) := by kernel_rfl
end Go.Proofs.YtmaiakpjgomnpaaGreat
namespace Go.Proofs.YtmaiakpjgomnpaaGreat
open Go.Sl 
theorem c5 : dC Tryz.prog ⟨[22], [(88, 0, 0)]⟩ = true := by kernel_rfl
attribute [local irreducible] ak.az aa.gL aa.gN aa.eC aa.gk aa.eW aa.iz aa.il aa.first aa.cut aa.gB aa.fx aa.cD
structure Ce where
 k : List Int
 p : Option Addr
 c : Nat
 d : List Int
def Ce.ch (x : Ce) : aa.Ch := ⟨x.k, x.d⟩
def JT (x : Ce) : Option Addr × List Int := (x.p, x.d)
abbrev CK : Ec Ce := ⟨88, 2, fun x => [.string (strOfNums x.k), .slice x.p x.d.length x.c], ⟨[], none, 0, []⟩, fun _ => rfl, fun _ => rfl⟩
abbrev DK (l : List Ce) : ab := CV U5 JT l
def yA (x : Ce) : Prop := x.d.length ≤ x.c
theorem yu {es : List Ce} {x : Ce} (h : ∀ y ∈ es, yA y) (hx : x.d.length ≤ x.c) : ∀ y ∈ es ++ [x], yA y := fun y hy => (List.mem_append.1 hy).elim (h y) (fun e => List.mem_singleton.1 e ▸ hx)
theorem Df (bt : Nat) (p : Option Addr) (c n : Nat) (L : List Int) (R : ab) (hR : ∀ w0 h, R w0 h → aS U5 p n L w0 h) (hn : L.length = n) (hl : n < 500000000) (hB : ak.az L) (hcap : n ≤ c) (e : Int) (hf : aa.first L = .error e) : aK Tryz.prog 79 [.slice p n c, .pointer (some ⟨bt, 0, none⟩)] [ao bt 175 (CA [] .u32 aa.eW []), R] (aR fun v G => v = .tuple #[.agg #[.string ByteArray.empty, .slice none 0 0], .int .i64 0, .int .i64 e] ∧ G = [ao bt 175 (CA [] .u32 aa.eW []), R]) := by
 subst hn
 refine (yq bt p c L R hR hl hB hcap).mono ?_
 rintro e2 G ⟨v, rfl, (⟨e', h, rfl, rfl⟩ | ⟨x, q, cq, h, _, _⟩)⟩
 ·rw [hf] at h; cases h; exact ⟨_, rfl, rfl, rfl⟩
 ·rw [hf] at h; cases h
theorem rU (bt : Nat) (p : Option Addr) (c n : Nat) (L : List Int) (R : ab) (hR : ∀ w0 h, R w0 h → aS U5 p n L w0 h) (hn : L.length = n) (hl : n < 500000000) (hB : ak.az L) (hcap : n ≤ c) (x : aa.Ch) (hf : aa.first L = .ok x) : aK Tryz.prog 79 [.slice p n c, .pointer (some ⟨bt, 0, none⟩)] [ao bt 175 (CA [] .u32 aa.eW []), R] (aR fun v G => ∃ q cq, v = .tuple #[.agg #[.string (strOfNums x.k), .slice q x.d.length cq], .int .i64 ((12 + x.d.length : Nat) : Int), .int .i64 0] ∧ G = [Row U5 q x.d.length cq x.d, ao bt 175 (CA [] .u32 aa.eW []), R]) := by
 subst hn
 refine (yq bt p c L R hR hl hB hcap).mono ?_
 rintro e2 G ⟨v, rfl, (⟨e', h, _, _⟩ | ⟨x', q, cq, h, rfl, rfl⟩)⟩
 ·rw [hf] at h; cases h
 ·rw [hf] at h; cases h; exact ⟨_, rfl, q, cq, rfl, rfl⟩
theorem vg (p : Option Addr) (c n : Nat) (L : List Int) (R : ab) (hR : ∀ w0 h, R w0 h → aS U5 p n L w0 h) (hn : L.length = n) (hB : ak.az L) (hcap : n ≤ c) (p2 : Option Addr) (c2 n2 : Nat) (D : List Int) (R2 : ab) (hR2 : ∀ w0 h, R2 w0 h → aS U5 p2 n2 D w0 h) (hn2 : D.length = n2) (hD : ak.az D) (hlen : n2 ≤ n) (t : Bool) (ht : t = decide (L.take n2 = D)) : aK Tryz.prog 77 [.slice p n c, .slice p2 n2 c2] [R, R2] (aR fun v G => v = .bool t ∧ G = [R, R2]) := by
 subst hn; subst hn2; exact DA p c L R hR hB hcap p2 c2 D R2 hR2 hD hlen t ht
set_option maxHeartbeats 8000000 in
theorem Fv (p : Option Addr) (c : Nat) (B : List Int) (R : ab) (hR : ∀ w0 h, R w0 h → aS U5 p B.length B w0 h) (hl : B.length < 500000000) (hB : ak.az B) (hcap : B.length ≤ c) : aK Tryz.prog 37 [.slice p B.length c] [R] (aR fun v G => (∃ e, aa.cut B = .error e ∧ v = .tuple #[.slice none 0 0, .int .i64 e] ∧ G = [R]) ∨ (∃ q cq, ∃ es : List Ce, aa.cut B = .ok (es.map Ce.ch) ∧ es.length ≤ 262144 ∧ (∀ y ∈ es, yA y) ∧ v = .tuple #[.slice q es.length cq, .int .i64 0] ∧ G = [Row CK q es.length cq es, DK es, R])) := by
 refine ax [(0, _)] Tryz.func37 rfl Tryz.ntmps37 rfl rfl ?_
 intro w0 F
 refine rT c5 8 rfl ?_
 refine ai (LK) V.Qu  rfl .nil rfl ?_
 rintro _ _ ⟨b10, rfl, rfl⟩
 refine rO c5 5 rfl ?_
 rcases (aa.Jf B) with ⟨h1, hc⟩ | ⟨h1, hc⟩ | ⟨h1, h2, hsg, hc⟩ | ⟨h1, h2, hsg, hc⟩
 ·refine rC c5 4 rfl ?_
  refine oV (aU (bj rfl rfl) (by omega)) ?_
  refine rO c5 13 rfl ?_
  exact aj (fH rfl rfl) (.inl ⟨3, hc, rfl, rfl⟩) (sub (.cons aE .nil) cG)
 ·refine rC c5 4 rfl ?_
  refine oV (aA (bj rfl rfl) (by omega)) ?_
  refine rO c5 10 rfl ?_
  refine oV (aU (bD rfl rfl) (by omega)) ?_
  refine rO c5 13 rfl ?_
  exact aj (fH rfl rfl) (.inl ⟨2, hc, rfl, rfl⟩) (sub (.cons aE .nil) cG)
 ·refine rC c5 4 rfl ?_
  refine oV (aA (bj rfl rfl) (by omega)) ?_
  refine rO c5 10 rfl ?_
  refine oV (aA (bD rfl rfl) (by omega)) ?_
  refine rO c5 8 rfl ?_
  refine ai (vg p c B.length B R hR rfl hB hcap (some ⟨b10, 0, none⟩) 8 8 aa.fx (Row U5 (some ⟨b10, 0, none⟩) 8 8 aa.fx) (fun _ _ hh => hh.rd) aa.wo aa.se (by omega) false (decide_eq_false hsg).symm) V.Oz  rfl (.cons aE (aw .nil)) rfl ?_
  rintro _ _ ⟨rfl, rfl⟩
  refine rO c5 14 rfl ?_
  exact aj (fH rfl rfl) (.inl ⟨4, hc, rfl, rfl⟩) (sub (aw .nil) cG)
 ·refine rC c5 4 rfl ?_
  refine oV (aA (bj rfl rfl) (by omega)) ?_
  refine rO c5 10 rfl ?_
  refine oV (aA (bD rfl rfl) (by omega)) ?_
  refine rO c5 8 rfl ?_
  refine ai (vg p c B.length B R hR rfl hB hcap (some ⟨b10, 0, none⟩) 8 8 aa.fx (Row U5 (some ⟨b10, 0, none⟩) 8 8 aa.fx) (fun _ _ hh => hh.rd) aa.wo aa.se (by omega) true (decide_eq_true hsg).symm) V.Oz  rfl (.cons aE (aw .nil)) rfl ?_
  rintro _ _ ⟨rfl, rfl⟩
  refine rO c5 10 rfl ?_
  refine ai (MB) V.QJ  rfl .nil rfl ?_
  rintro _ _ ⟨b26, rfl, rfl⟩
  refine rO c5 13 rfl ?_
  refine oV (dW 8 B.length c V.bP rfl ⟨_, rfl⟩ ⟨rfl, rfl⟩ rfl (by omega) (by omega) (by omega)) ?_
  refine rO c5 4 rfl ?_
  refine hH (DK []) (Hy _ _ _ _) ?_
  refine hH (Row CK none 0 0 []) (Row.nil _ _ _) ?_
  rw [show B.length - 8 = (B.drop 8).length from List.length_drop.symm]
  refine yZ (fun (f : Nat) (pz : Option Addr) (cz : Nat) (Z : List Int) (pl : Option Addr) (cl : Nat) (es : List Ce) => [(0, .slice pz Z.length cz), (5, .pointer (some ⟨b26, 0, none⟩)), (6, .slice pl es.length cl)]) (fun (f : Nat) (pz : Option Addr) (cz : Nat) (Z : List Int) (pl : Option Addr) (cl : Nat) (es : List Ce) => Row CK pl es.length cl es :: DK es :: ao b26 175 (CA [] .u32 aa.eW []) :: R :: F) (fun (f : Nat) (pz : Option Addr) (cz : Nat) (Z : List Int) (pl : Option Addr) (cl : Nat) (es : List Ce) => aa.gB f Z (es.map Ce.ch) = aa.cut B ∧ Z.length < f ∧ (∀ w0 h, R w0 h → aS U5 pz Z.length Z w0 h) ∧ Z.length ≤ cz ∧ ak.az Z ∧ es.length + Z.length ≤ 262144 ∧ (∀ y ∈ es, yA y)) (fun (f : Nat) (pz : Option Addr) (cz : Nat) (Z : List Int) (pl : Option Addr) (cl : Nat) (es : List Ce) => f) (i7 ((B.length + 1)) ((eo p 8 c 1)) ((c - 8)) ((B.drop 8)) (none) (0) ([]) ?_ (jm ln) (sub (nz .nil) cG)) ?_
  ·exact ⟨hc, by rw [List.length_drop]; omega, by rw [List.length_drop]; exact gW (c := U5) hR rfl 8 c (by omega) hcap, by rw [List.length_drop]; omega, aa.ej hB 8, by rw [List.length_drop]; show 0 + _ ≤ _; omega, fun y hy => by cases hy⟩
  intro f pz cz Z pl cl es
  rintro ⟨hcut, hZf, hZR, hZc, hZB, hes, hco⟩
  obtain ⟨f, rfl⟩ : ∃ g, f = g + 1 := ⟨f - 1, by omega⟩
  refine rL c5 1 rfl ?_
  rcases (aa.OT hZB) with ⟨e, hf, he⟩ | ⟨x, hf, hxl, hxn, hxB, hk⟩ | ⟨x, hf, hxl, hxn, hxB, hk⟩ | ⟨x, hf, hxl, hxn, hxB, hk⟩
  ·refine rC c5 4 rfl ?_
   refine ai (Df b26 pz cz Z.length Z R hZR rfl (by omega) hZB hZc e hf) V.Fm  rfl (.cons bK (.cons bK .nil)) rfl ?_
   rintro _ _ ⟨rfl, rfl⟩
   refine rO c5 4 rfl ?_
   refine cB V.lx rfl ?_
   intro b7
   refine aQ (aD V.jW rfl rfl (us := [_, _]) rfl rfl (by exact cZ) (by exact Nat.le_of_ble_eq_true rfl) rfl) ?_
   refine rO c5 8 rfl ?_
   refine oV (aU (bG rfl rfl) he) ?_
   refine rO c5 15 rfl ?_
   rw [aa.L4 hf] at hcut
   exact aj (fH rfl rfl) (.inl ⟨e, hcut.symm, rfl, rfl⟩) (sub (.cons bK .nil) mE)
  ·refine rC c5 4 rfl ?_
   refine ai (rU b26 pz cz Z.length Z R hZR rfl (by omega) hZB hZc x hf) V.Fm  rfl (.cons bK (.cons bK .nil)) rfl ?_
   rintro _ _ ⟨q35, c35, rfl, rfl⟩
   refine rO c5 4 rfl ?_
   refine cB V.lx rfl ?_
   intro b7
   refine aQ (aD V.jW rfl rfl (us := [_, _]) rfl rfl (by exact cZ) (by exact Nat.le_of_ble_eq_true rfl) rfl) ?_
   refine rO c5 8 rfl ?_
   refine oV (aA (bG rfl rfl) (fun h => h rfl)) ?_
   refine rO c5 9 rfl ?_
   refine oV (dW (12 + x.d.length) Z.length cz V.bP rfl ⟨_, rfl⟩ ⟨rfl, rfl⟩ rfl (by omega) (by omega) (by omega)) ?_
   refine rO c5 6 rfl ?_
   refine oV (bX V.jW rfl an (vs := [_, _]) rfl rfl) ?_
   refine ef (CK) [(Ce.mk x.k q35 c35 x.d)] V.gA V.lx rfl rfl rfl rfl rfl rfl ?_
   intro b46
   refine ek (c := (CK)) V.gA V.lx rfl rfl rfl rfl kd (own an) (by omega) rfl ?_
   intro p47 c47
   refine rO c5 5 rfl ?_
   refine iU (fun w hi => gY hi (show Row U5 q35 x.d.length c35 x.d ∈ _ by exact eL)) (fun hcx => ?_)
   refine bR (bd (A := DK (es ++ [(Ce.mk x.k q35 c35 x.d)])) (.cons om (.cons eg .nil)) au (fun w0 h hh => ue (x := (Ce.mk x.k q35 c35 x.d)) rfl hh)) ?_
   refine rC c5 2 rfl ?_
   refine oV (af V.s9 rfl eL rfl) ?_
   refine oV (cN (v := .bool true) (ku (r := false) (s8 (aa.ba (aa.rq hxn)) (aa.ba aa.xK) hk) rfl (show aq _ _ = some (.string (strOfNums aa.cD)) by unfold aa.cD; rfl)) rfl) ?_
   refine rO c5 6 rfl ?_
   have hdl : (Z.drop (12 + x.d.length)).length = Z.length - (12 + x.d.length) := List.length_drop
   have hel : (es ++ [(Ce.mk x.k q35 c35 x.d)]).length = es.length + 1 := by rw [List.length_append]; rfl
   rw [aa.Kh hf hk, show es.map Ce.ch ++ [x] = (es ++ [(Ce.mk x.k q35 c35 x.d)]).map Ce.ch from by rw [List.map_append]; rfl] at hcut
   rw [← hdl, ← hel]
   exact j7 f _ _ (Z.drop (12 + x.d.length)) _ _ (es ++ [(Ce.mk x.k q35 c35 x.d)]) ⟨⟨hcut, by omega, by rw [hdl]; exact gW (c := U5) hZR rfl (12 + x.d.length) cz (by omega) hZc, by omega, aa.ej hZB _, by omega, yu hco hcx⟩, by omega⟩ (.cons rfl (.cons rfl (.cons rfl (.nil _)))) (sub (.cons aE (.cons dX (.cons bK (.cons bK .nil)))) fS)
  ·refine rC c5 4 rfl ?_
   refine ai (rU b26 pz cz Z.length Z R hZR rfl (by omega) hZB hZc x hf) V.Fm  rfl (.cons bK (.cons bK .nil)) rfl ?_
   rintro _ _ ⟨q35, c35, rfl, rfl⟩
   refine rO c5 4 rfl ?_
   refine cB V.lx rfl ?_
   intro b7
   refine aQ (aD V.jW rfl rfl (us := [_, _]) rfl rfl (by exact cZ) (by exact Nat.le_of_ble_eq_true rfl) rfl) ?_
   refine rO c5 8 rfl ?_
   refine oV (aA (bG rfl rfl) (fun h => h rfl)) ?_
   refine rO c5 9 rfl ?_
   refine oV (dW (12 + x.d.length) Z.length cz V.bP rfl ⟨_, rfl⟩ ⟨rfl, rfl⟩ rfl (by omega) (by omega) (by omega)) ?_
   refine rO c5 6 rfl ?_
   refine oV (bX V.jW rfl an (vs := [_, _]) rfl rfl) ?_
   refine ef (CK) [(Ce.mk x.k q35 c35 x.d)] V.gA V.lx rfl rfl rfl rfl rfl rfl ?_
   intro b46
   refine ek (c := (CK)) V.gA V.lx rfl rfl rfl rfl kd (own an) (by omega) rfl ?_
   intro p47 c47
   refine rO c5 5 rfl ?_
   refine iU (fun w hi => gY hi (show Row U5 q35 x.d.length c35 x.d ∈ _ by exact eL)) (fun hcx => ?_)
   refine bR (bd (A := DK (es ++ [(Ce.mk x.k q35 c35 x.d)])) (.cons om (.cons eg .nil)) au (fun w0 h hh => ue (x := (Ce.mk x.k q35 c35 x.d)) rfl hh)) ?_
   refine rC c5 2 rfl ?_
   refine oV (af V.s9 rfl eL rfl) ?_
   refine oV (cN (v := .bool false) (ku (r := true) (by rw [hk]; exact beq_self_eq_true _) rfl (show aq _ _ = some (.string (strOfNums aa.cD)) by unfold aa.cD; rfl)) rfl) ?_
   refine rO c5 10 rfl ?_
   refine oV (aA (bj rfl rfl) (by omega)) ?_
   refine rO c5 16 rfl ?_
   have hel : (es ++ [(Ce.mk x.k q35 c35 x.d)]).length = es.length + 1 := by rw [List.length_append]; rfl
   rw [aa.KY hf hk hxl, show es.map Ce.ch ++ [x] = (es ++ [(Ce.mk x.k q35 c35 x.d)]).map Ce.ch from by rw [List.map_append]; rfl] at hcut
   rw [← hel]
   exact aj (fH rfl rfl) (.inr ⟨_, _, _, hcut.symm, by omega, yu hco hcx, rfl, rfl⟩) (sub (.cons aE (aw (.cons eg .nil))) n4)
  ·refine rC c5 4 rfl ?_
   refine ai (rU b26 pz cz Z.length Z R hZR rfl (by omega) hZB hZc x hf) V.Fm  rfl (.cons bK (.cons bK .nil)) rfl ?_
   rintro _ _ ⟨q35, c35, rfl, rfl⟩
   refine rO c5 4 rfl ?_
   refine cB V.lx rfl ?_
   intro b7
   refine aQ (aD V.jW rfl rfl (us := [_, _]) rfl rfl (by exact cZ) (by exact Nat.le_of_ble_eq_true rfl) rfl) ?_
   refine rO c5 8 rfl ?_
   refine oV (aA (bG rfl rfl) (fun h => h rfl)) ?_
   refine rO c5 9 rfl ?_
   refine oV (dW (12 + x.d.length) Z.length cz V.bP rfl ⟨_, rfl⟩ ⟨rfl, rfl⟩ rfl (by omega) (by omega) (by omega)) ?_
   refine rO c5 6 rfl ?_
   refine oV (bX V.jW rfl an (vs := [_, _]) rfl rfl) ?_
   refine ef (CK) [(Ce.mk x.k q35 c35 x.d)] V.gA V.lx rfl rfl rfl rfl rfl rfl ?_
   intro b46
   refine ek (c := (CK)) V.gA V.lx rfl rfl rfl rfl kd (own an) (by omega) rfl ?_
   intro p47 c47
   refine rO c5 5 rfl ?_
   refine iU (fun w hi => gY hi (show Row U5 q35 x.d.length c35 x.d ∈ _ by exact eL)) (fun hcx => ?_)
   refine bR (bd (A := DK (es ++ [(Ce.mk x.k q35 c35 x.d)])) (.cons om (.cons eg .nil)) au (fun w0 h hh => ue (x := (Ce.mk x.k q35 c35 x.d)) rfl hh)) ?_
   refine rC c5 2 rfl ?_
   refine oV (af V.s9 rfl eL rfl) ?_
   refine oV (cN (v := .bool false) (ku (r := true) (by rw [hk]; exact beq_self_eq_true _) rfl (show aq _ _ = some (.string (strOfNums aa.cD)) by unfold aa.cD; rfl)) rfl) ?_
   refine rO c5 10 rfl ?_
   refine oV (aU (bj rfl rfl) (by omega)) ?_
   refine rO c5 14 rfl ?_
   rw [aa.Kd hf hk hxl] at hcut
   exact aj (fH rfl rfl) (.inl ⟨4, hcut.symm, rfl, rfl⟩) (sub (.cons kd .nil) FP)
end Go.Proofs.YtmaiakpjgomnpaaGreat
namespace Go.Proofs.YtmaiakpjgomnpaaGreat
open Go.Sl
theorem V.Kq : aJ Tryz.prog 113 = true := by kernel_rfl
theorem V.IU : aJ Tryz.prog 114 = true := by kernel_rfl
theorem V.QI : bW Tryz.prog 137 0 = some 0 := by kernel_rfl
theorem V.Rc : bW Tryz.prog 137 1 = some 1 := by kernel_rfl
theorem V.Rf : bW Tryz.prog 137 2 = some 2 := by kernel_rfl
theorem V.QZ : bW Tryz.prog 137 3 = some 3 := by kernel_rfl
end Go.Proofs.YtmaiakpjgomnpaaGreat

/- Walks of functions that the law reaches, and what they lean on; no conditions. -/
import Derived.Test.YtmaiakpjgomnpaaGreatM1
import Derived.KernelRfl
import Derived.Test.YtmaiakpjgomnpaaGreatM5
import Derived.Test.YtmaiakpjgomnpaaGreatM3
import Derived.Test.YtmaiakpjgomnpaaGreatM4
import Derived.Laws.BytesArg
import Derived.Test.YtmaiakpjgomnpaaGreatM2
import Derived.Shelf.Sort.Plain
set_option linter.unusedVariables false
set_option linter.unusedSimpArgs false
set_option maxRecDepth 100000
namespace Go.Proofs.YtmaiakpjgomnpaaGreat
open Go.Sl 
theorem bu : dR Tryz.prog ⟨[22], [(223, 0, 0), (223, 3, 3), (223, 4, 4), (223, 5, 5)]⟩ = true := by kernel_rfl
attribute [local irreducible] af.bU af.tk af.ord af.cK af.words af.c9 ad.iG ad.de ad.dz ad.eo ad.hL ad.hD ad.hC ad.fz ad.told ad.fT ad.jo ad.rep ad.fo ad.eG ad.sym ad.dG aj.aS ad.eY ad.dM ad.one ad.eX
set_option maxHeartbeats 2000000 in
theorem DQ (b bl : Nat) (sz mo : Int) (B : List Int) (s : ad.St) (n : Int) (hok : ad.Ok B mo s) (hm : mo < 1000000000) (hx : n < 1 ∨ s.ended = true) : aE Tryz.prog 147 [.pointer (some ⟨b, 0, none⟩), .int .i64 n] [MM b bl sz mo B s] (aO fun v G => v = .bool s.ended ∧ G = [MM b bl sz mo B s]) := by
 refine au [(0, _), (1, _)] Tryz.func147 rfl Tryz.ntmps147 rfl rfl ?_
 intro w0 F
 have hro := hok.room
 refine gk dS (fun h hh => jQ hh) ?_
 rintro ⟨li, di⟩ _
 dsimp only
 simp only [List.cons_append, List.nil_append]
 refine gC (fun h hh => iO hh) ?_
 rintro ⟨po, co⟩ _
 dsimp only
 simp only [List.cons_append, List.nil_append]
 refine rT bu 2 rfl ?_
 refine eL rfl (cs := [_]) rfl rfl ?_
 intro b2
 refine eL rfl (cs := [_]) rfl rfl ?_
 intro b3
 refine rO bu 6 rfl ?_
 refine oV (ae V.gG rfl bW rfl) ?_
 refine oV (cH (v := .bool false) (iL Tryz.underlying204 rfl rfl) rfl) ?_
 refine oV (aJ rfl) ?_
 refine ag rfl ?_
 refine oV (ae V.gG rfl bW rfl) ?_
 refine rO bu 2 rfl ?_
 refine ag rfl ?_
 refine oV (ae V.dO rfl dH rfl) ?_
 refine ag rfl ?_
 refine oV (cH (v := .bool false) (iL Tryz.underlying219 rfl rfl) rfl) ?_
 refine rO bu 6 rfl ?_
 rcases (Classical.em (n < 1)) with h1 | h1
 ·refine rC bu 3 rfl ?_
  refine oV (ae V.s3 rfl an rfl) ?_
  refine oV (aY (bo rfl rfl) h1) ?_
  refine rO bu 11 rfl ?_
  refine oV (ae V.gG rfl bW rfl) ?_
  refine rO bu 2 rfl ?_
  refine oV (ae V.s4 rfl dH rfl) ?_
  refine rO bu 5 rfl ?_
  exact ak (aB rfl) ⟨rfl, rfl⟩ (Sl.Sub.trans ((aX (.cons bX (.cons bX .nil)) .refl (fun w0 h hh => dr (s := s) rfl hh)).trans (aX (ar (.cons bX (.cons bX .nil))) .refl (fun w0 h hh => fp (s := s) hh))) (sub (ar .nil) hJ))
 ·refine rC bu 3 rfl ?_
  refine oV (ae V.s3 rfl an rfl) ?_
  refine oV (aA (bo rfl rfl) h1) ?_
  refine oV (aJ rfl) ?_
  refine ag rfl ?_
  refine oV (ae V.gG rfl bW rfl) ?_
  refine rO bu 2 rfl ?_
  refine ag rfl ?_
  refine oV (cH (v := .bool true) (ae V.s4 rfl dH rfl) (by rw [hx.resolve_left h1])) ?_
  refine rO bu 6 rfl ?_
  refine oV (ae V.gG rfl bW rfl) ?_
  refine rO bu 2 rfl ?_
  refine oV (ae V.s4 rfl dH rfl) ?_
  refine rO bu 5 rfl ?_
  exact ak (aB rfl) ⟨rfl, rfl⟩ (Sl.Sub.trans ((aX (.cons bX (.cons bX .nil)) .refl (fun w0 h hh => dr (s := s) rfl hh)).trans (aX (ar (.cons bX (.cons bX .nil))) .refl (fun w0 h hh => fp (s := s) hh))) (sub (ar .nil) hJ))
set_option maxHeartbeats 2000000 in
theorem DT (b bl : Nat) (sz mo : Int) (B : List Int) (s : ad.St) (n : Int) (hl : B.length < 500000000) (hB : aj.av B) (hn : 1 ≤ n) (hok : ad.Ok B mo s) (hm : mo < 1000000000) (he : s.ended = false) (s2 : ad.St) (hlp : ad.Lp B mo s.out.length n s (.ok s2)) : aE Tryz.prog 147 [.pointer (some ⟨b, 0, none⟩), .int .i64 n] [MM b bl sz mo B s] (aO fun v G => v = .bool s2.ended ∧ G = [MM b bl sz mo B s2]) := by
 refine au [(0, _), (1, _)] Tryz.func147 rfl Tryz.ntmps147 rfl rfl ?_
 intro w0 F
 have hro := hok.room
 refine gk dS (fun h hh => jQ hh) ?_
 rintro ⟨li, di⟩ _
 dsimp only
 simp only [List.cons_append, List.nil_append]
 refine gC (fun h hh => iO hh) ?_
 rintro ⟨po, co⟩ _
 dsimp only
 simp only [List.cons_append, List.nil_append]
 refine rT bu 2 rfl ?_
 refine eL rfl (cs := [_]) rfl rfl ?_
 intro b2
 refine eL rfl (cs := [_]) rfl rfl ?_
 intro b3
 refine rO bu 6 rfl ?_
 refine oV (ae V.gG rfl bW rfl) ?_
 refine oV (cH (v := .bool false) (iL Tryz.underlying204 rfl rfl) rfl) ?_
 refine oV (aJ rfl) ?_
 refine ag rfl ?_
 refine oV (ae V.gG rfl bW rfl) ?_
 refine rO bu 2 rfl ?_
 refine ag rfl ?_
 refine oV (ae V.dO rfl dH rfl) ?_
 refine ag rfl ?_
 refine oV (cH (v := .bool false) (iL Tryz.underlying219 rfl rfl) rfl) ?_
 refine rO bu 9 rfl ?_
 refine oV (ae V.s3 rfl an rfl) ?_
 refine oV (aA (bo rfl rfl) (by omega)) ?_
 refine oV (aJ rfl) ?_
 refine ag rfl ?_
 refine oV (ae V.gG rfl bW rfl) ?_
 refine rO bu 2 rfl ?_
 refine ag rfl ?_
 refine oV (cH (v := .bool false) (ae V.s4 rfl dH rfl) (by rw [he])) ?_
 refine rO bu 8 rfl ?_
 refine oV (ae V.gG rfl bW rfl) ?_
 refine rO bu 2 rfl ?_
 refine oV (ae V.ez rfl dH rfl) ?_
 refine oV (eu (ty' := 0) Tryz.underlying22 rfl) ?_
 refine cn V.z3 rfl ?_
 intro b5
 refine aT (bT V.s3 rfl rfl rfl (by exact cZ) (by exact Nat.le_of_ble_eq_true rfl) rfl) ?_
 refine rO bu 3 rfl ?_
 refine bP (Sl.Sub.trans (aX (.cons ed (.cons ed .nil)) .refl (fun w0 h hh => dr (s := s) rfl hh)) (aX (ar (.cons ed (.cons ed .nil))) .refl (fun w0 h hh => fp (s := s) hh))) ?_
 refine a7 ?_
 refine oV (zV (fs := []) (cs := [_, _, _]) rfl rfl) ?_
 refine ai (DS (f := 168) (cs := [.pointer (some ⟨b2, 0, none⟩), .pointer (some ⟨b5, 0, none⟩), .pointer (some ⟨b3, 0, none⟩)]) (R := fun G => G = [ao b2 204 [.pointer (some ⟨b, 0, none⟩)], ao b5 3 [.int .i64 (s.out.length : Int)], ao b3 3 [.int .i64 n], MM b bl sz mo B s2]) (aE.Qz ((ze b2 b5 b3 b bl sz mo s.out.length n s (.ok s2) B hl hB hm (by omega) hok hlp).ok rfl)) V.IQ) V.Kr  rfl (.cons ed (.cons az (.cons az (ar .nil)))) rfl ?_
 rintro _ _ ⟨rfl, rfl⟩
 refine rO bu 7 rfl ?_
 refine oV (aA (bY rfl rfl) (by decide)) ?_
 refine rO bu 6 rfl ?_
 refine gk ed (fun h hh => jQ hh) ?_
 rintro ⟨li2, di2⟩ _
 dsimp only
 simp only [List.cons_append, List.nil_append]
 refine gC (fun h hh => iO hh) ?_
 rintro ⟨po2, co2⟩ _
 dsimp only
 simp only [List.cons_append, List.nil_append]
 refine a7 ?_
 refine oV (ae V.gG rfl jz rfl) ?_
 refine rO bu 2 rfl ?_
 refine oV (ae V.s4 rfl an rfl) ?_
 refine rO bu 4 rfl ?_
 exact ak (aB rfl) ⟨rfl, rfl⟩ (Sl.Sub.trans ((aX (bD .nil) .refl (fun w0 h hh => dr (s := s2) rfl hh)).trans (aX (ic .nil) .refl (fun w0 h hh => fp (s := s2) hh))) (sub (ar .nil) oc))
theorem GG {b bl : Nat} {sz mo : Int} {w0 : World} {h : Hp} (hh : MX b bl sz mo w0 h) : ∃ i : Vx, True ∧ dg w0 [ao b 223 [.pointer (some ⟨bl, 0, none⟩), .int .i64 sz, .int .i64 mo, i.v3, i.v4, i.v5, i.v6, i.v7, i.v8, i.v9, i.v10, i.v11, i.v12]] h := hh
theorem oa {b bl : Nat} {sz mo e : Int} {w0 : World} {h : Hp} (hh : MD b bl sz mo e w0 h) : ∃ i : Vx, True ∧ dg w0 [ao b 223 [.pointer (some ⟨bl, 0, none⟩), .int .i64 sz, .int .i64 mo, .slice none 0 0, .bool true, .int .i64 e, i.v6, i.v7, i.v8, i.v9, i.v10, i.v11, i.v12]] h := hh
set_option maxHeartbeats 2000000 in
theorem ET (b bl : Nat) (sz mo : Int) (B : List Int) (s : ad.St) (n : Int) (hl : B.length < 500000000) (hB : aj.av B) (hn : 1 ≤ n) (hok : ad.Ok B mo s) (hm : mo < 1000000000) (he : s.ended = false) (e : Int) (hE : e ≠ 0) (hlp : ad.Lp B mo s.out.length n s (.error e)) : aE Tryz.prog 147 [.pointer (some ⟨b, 0, none⟩), .int .i64 n] [MM b bl sz mo B s] (aO fun v G => v = .bool true ∧ G = [MD b bl sz mo e]) := by
 refine au [(0, _), (1, _)] Tryz.func147 rfl Tryz.ntmps147 rfl rfl ?_
 intro w0 F
 have hro := hok.room
 refine gk dS (fun h hh => jQ hh) ?_
 rintro ⟨li, di⟩ _
 dsimp only
 simp only [List.cons_append, List.nil_append]
 refine gC (fun h hh => iO hh) ?_
 rintro ⟨po, co⟩ _
 dsimp only
 simp only [List.cons_append, List.nil_append]
 refine rT bu 2 rfl ?_
 refine eL rfl (cs := [_]) rfl rfl ?_
 intro b2
 refine eL rfl (cs := [_]) rfl rfl ?_
 intro b3
 refine rO bu 6 rfl ?_
 refine oV (ae V.gG rfl bW rfl) ?_
 refine oV (cH (v := .bool false) (iL Tryz.underlying204 rfl rfl) rfl) ?_
 refine oV (aJ rfl) ?_
 refine ag rfl ?_
 refine oV (ae V.gG rfl bW rfl) ?_
 refine rO bu 2 rfl ?_
 refine ag rfl ?_
 refine oV (ae V.dO rfl dH rfl) ?_
 refine ag rfl ?_
 refine oV (cH (v := .bool false) (iL Tryz.underlying219 rfl rfl) rfl) ?_
 refine rO bu 9 rfl ?_
 refine oV (ae V.s3 rfl an rfl) ?_
 refine oV (aA (bo rfl rfl) (by omega)) ?_
 refine oV (aJ rfl) ?_
 refine ag rfl ?_
 refine oV (ae V.gG rfl bW rfl) ?_
 refine rO bu 2 rfl ?_
 refine ag rfl ?_
 refine oV (cH (v := .bool false) (ae V.s4 rfl dH rfl) (by rw [he])) ?_
 refine rO bu 8 rfl ?_
 refine oV (ae V.gG rfl bW rfl) ?_
 refine rO bu 2 rfl ?_
 refine oV (ae V.ez rfl dH rfl) ?_
 refine oV (eu (ty' := 0) Tryz.underlying22 rfl) ?_
 refine cn V.z3 rfl ?_
 intro b5
 refine aT (bT V.s3 rfl rfl rfl (by exact cZ) (by exact Nat.le_of_ble_eq_true rfl) rfl) ?_
 refine rO bu 3 rfl ?_
 refine bP (Sl.Sub.trans (aX (.cons ed (.cons ed .nil)) .refl (fun w0 h hh => dr (s := s) rfl hh)) (aX (ar (.cons ed (.cons ed .nil))) .refl (fun w0 h hh => fp (s := s) hh))) ?_
 refine a7 ?_
 refine oV (zV (fs := []) (cs := [_, _, _]) rfl rfl) ?_
 refine ai (Dz (f := 168) (cs := [.pointer (some ⟨b2, 0, none⟩), .pointer (some ⟨b5, 0, none⟩), .pointer (some ⟨b3, 0, none⟩)]) (R := fun G => G = [ao b2 204 [.pointer (some ⟨b, 0, none⟩)], ao b5 3 [.int .i64 (s.out.length : Int)], ao b3 3 [.int .i64 n], MX b bl sz mo]) ((ze b2 b5 b3 b bl sz mo s.out.length n s (.error e) B hl hB hm (by omega) hok hlp).err rfl) V.IQ) V.Kr  rfl (.cons ed (.cons az (.cons az (ar .nil)))) rfl ?_
 rintro _ _ ⟨rfl, rfl⟩
 refine rO bu 7 rfl ?_
 refine oV (aY (bY rfl rfl) hE) ?_
 refine rO bu 3 rfl ?_
 refine gk ed (fun h hh => GG hh) ?_
 rintro ⟨v3, v4, v5, v6, v7, v8, v9, v10, v11, v12⟩ _
 dsimp only
 simp only [List.cons_append, List.nil_append]
 refine wN [pz 0 [] [2], pz 0 [] [2], pz 0 [] [2], pz 0 [] [6], pz 1 [0] [], pz 17 [4] [], pz 49 [5] [], pz 123 [1] [], pz 251 [7] [], pz 507 [8, 3] [], pz 1023 [2] [], pz 2047 [10] [], pz 4095 [11] []] [⟨fun y => ao b 223 [.pointer (some ⟨bl, 0, none⟩), .int .i64 sz, .int .i64 mo, v3, v4, v5, v6, v7, v8, v9, v10, v11, v12], none, some 6, []⟩, ⟨fun y => ao b2 204 [.pointer (some ⟨b, 0, none⟩)], none, none, [0, 1, 2]⟩, ⟨fun y => ao b5 3 [.int .i64 (s.out.length : Int)], none, none, []⟩, ⟨fun y => ao b3 3 [.int .i64 n], none, none, []⟩, ⟨fun y => ao b 223 [.pointer (some ⟨bl, 0, none⟩), .int .i64 sz, .int .i64 mo, v3, .bool true, v5, v6, v7, v8, v9, v10, v11, v12], some 6, some 9, []⟩, ⟨fun y => ao b 223 [.pointer (some ⟨bl, 0, none⟩), .int .i64 sz, .int .i64 mo, v3, .bool true, .int .i64 e, v6, v7, v8, v9, v10, v11, v12], some 9, some 12, []⟩, ⟨fun y => ao b 223 [.pointer (some ⟨bl, 0, none⟩), .int .i64 sz, .int .i64 mo, .slice none 0 0, .bool true, .int .i64 e, v6, v7, v8, v9, v10, v11, v12], some 12, none, []⟩] F V.mixed ?_
 iterate 3 refine nR (fun y FF hA => ae V.gG rfl an rfl) ?_
 refine nM ?_
 refine nN ?_
 refine nG V.xo ?_
 refine nE (fun y FF hA => du (bT V.s4 rfl rfl rfl (by exact cZ) (by exact Nat.le_of_ble_eq_true rfl) rfl) ⟨rfl, .refl _⟩) ?_
 refine nN ?_
 refine nG V.LF ?_
 refine nE (fun y FF hA => du (bT V.rj rfl rfl rfl (by exact cZ) (by exact Nat.le_of_ble_eq_true rfl) rfl) ⟨rfl, .refl _⟩) ?_
 refine nN ?_
 refine nG V.kK ?_
 refine nE (fun y FF hA => du (bT V.ez rfl rfl rfl (by exact cZ) (by exact Nat.le_of_ble_eq_true rfl) rfl) ⟨rfl, .refl _⟩) ?_
 refine aU ?_
 intro y hA
 clear hA
 refine ba ?_
 refine bZ _ (.cons (d := 2) rfl (.nil _)) ?_
 refine bP (M := ao b2 204 [.pointer (some ⟨b, 0, none⟩)] :: ao b5 3 [.int .i64 (s.out.length : Int)] :: ao b3 3 [.int .i64 n] :: ao b 223 [.pointer (some ⟨bl, 0, none⟩), .int .i64 sz, .int .i64 mo, .slice none 0 0, .bool true, .int .i64 e, v6, v7, v8, v9, v10, v11, v12] :: F) (fun _ _ h => h) ?_
 refine rC bu 2 rfl ?_
 refine oV (ae V.gG rfl an rfl) ?_
 refine rO bu 2 rfl ?_
 refine oV (ae V.s4 rfl eI rfl) ?_
 refine rO bu 4 rfl ?_
 exact ak (aB rfl) ⟨rfl, rfl⟩ (aX (.cons ed .nil) oc (fun w0 h hh => j9 hh))
set_option maxHeartbeats 2000000 in
theorem Du (b bl : Nat) (sz mo : Int) (e : Int) (n : Int) : aE Tryz.prog 147 [.pointer (some ⟨b, 0, none⟩), .int .i64 n] [MD b bl sz mo e] (aO fun v G => v = .bool true ∧ G = [MD b bl sz mo e]) := by
 refine au [(0, _), (1, _)] Tryz.func147 rfl Tryz.ntmps147 rfl rfl ?_
 intro w0 F
 refine gk dS (fun h hh => oa hh) ?_
 rintro ⟨v3, v4, v5, v6, v7, v8, v9, v10, v11, v12⟩ _
 dsimp only
 simp only [List.cons_append, List.nil_append]
 refine rT bu 2 rfl ?_
 refine eL rfl (cs := [_]) rfl rfl ?_
 intro b2
 refine eL rfl (cs := [_]) rfl rfl ?_
 intro b3
 refine rO bu 6 rfl ?_
 refine oV (ae V.gG rfl bW rfl) ?_
 refine oV (cH (v := .bool false) (iL Tryz.underlying204 rfl rfl) rfl) ?_
 refine oV (aJ rfl) ?_
 refine ag rfl ?_
 refine oV (ae V.gG rfl bW rfl) ?_
 refine rO bu 2 rfl ?_
 refine ag rfl ?_
 refine oV (ae V.dO rfl dH rfl) ?_
 refine ag rfl ?_
 refine oV (cH (v := .bool false) (iL Tryz.underlying219 rfl rfl) rfl) ?_
 refine rO bu 6 rfl ?_
 rcases (Classical.em (n < 1)) with h1 | h1
 ·refine rC bu 3 rfl ?_
  refine oV (ae V.s3 rfl an rfl) ?_
  refine oV (aY (bo rfl rfl) h1) ?_
  refine rO bu 11 rfl ?_
  refine oV (ae V.gG rfl bW rfl) ?_
  refine rO bu 2 rfl ?_
  refine oV (ae V.s4 rfl dH rfl) ?_
  refine rO bu 5 rfl ?_
  exact ak (aB rfl) ⟨rfl, rfl⟩ (aX (.cons bX .nil) hJ (fun w0 h hh => j9 hh))
 ·refine rC bu 3 rfl ?_
  refine oV (ae V.s3 rfl an rfl) ?_
  refine oV (aA (bo rfl rfl) h1) ?_
  refine oV (aJ rfl) ?_
  refine ag rfl ?_
  refine oV (ae V.gG rfl bW rfl) ?_
  refine rO bu 2 rfl ?_
  refine ag rfl ?_
  refine oV (ae V.s4 rfl dH rfl) ?_
  refine rO bu 6 rfl ?_
  refine oV (ae V.gG rfl bW rfl) ?_
  refine rO bu 2 rfl ?_
  refine oV (ae V.s4 rfl dH rfl) ?_
  refine rO bu 5 rfl ?_
  exact ak (aB rfl) ⟨rfl, rfl⟩ (aX (.cons bX .nil) hJ (fun w0 h hh => j9 hh))
theorem pQ (b bl : Nat) (sz mo : Int) (B : List Int) (s : ad.St) : aE Tryz.prog 146 [.pointer (some ⟨b, 0, none⟩)] [MM b bl sz mo B s] (aO fun v G => v = .bool s.ended ∧ G = [MM b bl sz mo B s]) := by
 refine au [(0, _)] Tryz.func146 rfl Tryz.ntmps146 rfl rfl ?_
 intro w0 F
 refine gk dS (fun h hh => jQ hh) ?_
 rintro ⟨li, di⟩ _
 dsimp only
 simp only [List.cons_append, List.nil_append]
 refine gC (fun h hh => iO hh) ?_
 rintro ⟨po, co⟩ _
 dsimp only
 simp only [List.cons_append, List.nil_append]
 refine rT bu 8 rfl ?_
 refine oV (cH (v := .bool true) (zd Tryz.underlying204 rfl rfl) rfl) ?_
 refine rO bu 4 rfl ?_
 refine ag rfl ?_
 refine oV (ae V.s4 rfl an rfl) ?_
 refine rO bu 5 rfl ?_
 exact ak (aB rfl) ⟨rfl, rfl⟩ (Sl.Sub.trans ((aX (bD .nil) .refl (fun w0 h hh => dr (s := s) rfl hh)).trans (aX (ic .nil) .refl (fun w0 h hh => fp (s := s) hh))) (sub (ar .nil) aw))
theorem qM (b bl : Nat) (sz mo : Int) (e : Int) : aE Tryz.prog 146 [.pointer (some ⟨b, 0, none⟩)] [MD b bl sz mo e] (aO fun v G => v = .bool true ∧ G = [MD b bl sz mo e]) := by
 refine au [(0, _)] Tryz.func146 rfl Tryz.ntmps146 rfl rfl ?_
 intro w0 F
 refine gk dS (fun h hh => oa hh) ?_
 rintro ⟨v3, v4, v5, v6, v7, v8, v9, v10, v11, v12⟩ _
 dsimp only
 simp only [List.cons_append, List.nil_append]
 refine rT bu 8 rfl ?_
 refine oV (cH (v := .bool true) (zd Tryz.underlying204 rfl rfl) rfl) ?_
 refine rO bu 4 rfl ?_
 refine ag rfl ?_
 refine oV (ae V.s4 rfl an rfl) ?_
 refine rO bu 5 rfl ?_
 exact ak (aB rfl) ⟨rfl, rfl⟩ (aX (ar .nil) aw (fun w0 h hh => j9 hh))
theorem Nk (b bl : Nat) (sz mo : Int) (B : List Int) (s : ad.St) : aE Tryz.prog 150 [.pointer (some ⟨b, 0, none⟩)] [MM b bl sz mo B s] (aO fun v G => v = .int .i64 0 ∧ G = [MM b bl sz mo B s]) := by
 refine au [(0, _)] Tryz.func150 rfl Tryz.ntmps150 rfl rfl ?_
 intro w0 F
 refine gk dS (fun h hh => jQ hh) ?_
 rintro ⟨li, di⟩ _
 dsimp only
 simp only [List.cons_append, List.nil_append]
 refine gC (fun h hh => iO hh) ?_
 rintro ⟨po, co⟩ _
 dsimp only
 simp only [List.cons_append, List.nil_append]
 refine rT bu 9 rfl ?_
 refine oV (cH (v := .bool false) (iL Tryz.underlying204 rfl rfl) rfl) ?_
 refine rO bu 10 rfl ?_
 refine oV (ae V.rj rfl an rfl) ?_
 refine rO bu 4 rfl ?_
 exact ak (aB rfl) ⟨rfl, rfl⟩ (Sl.Sub.trans ((aX (bD .nil) .refl (fun w0 h hh => dr (s := s) rfl hh)).trans (aX (ic .nil) .refl (fun w0 h hh => fp (s := s) hh))) (sub (ar .nil) aw))
theorem AM (b bl : Nat) (sz mo : Int) (e : Int) : aE Tryz.prog 150 [.pointer (some ⟨b, 0, none⟩)] [MD b bl sz mo e] (aO fun v G => v = .int .i64 e ∧ G = [MD b bl sz mo e]) := by
 refine au [(0, _)] Tryz.func150 rfl Tryz.ntmps150 rfl rfl ?_
 intro w0 F
 refine gk dS (fun h hh => oa hh) ?_
 rintro ⟨v3, v4, v5, v6, v7, v8, v9, v10, v11, v12⟩ _
 dsimp only
 simp only [List.cons_append, List.nil_append]
 refine rT bu 9 rfl ?_
 refine oV (cH (v := .bool false) (iL Tryz.underlying204 rfl rfl) rfl) ?_
 refine rO bu 10 rfl ?_
 refine oV (ae V.rj rfl an rfl) ?_
 refine rO bu 4 rfl ?_
 exact ak (aB rfl) ⟨rfl, rfl⟩ (aX (ar .nil) aw (fun w0 h hh => j9 hh))
theorem H4 (b bl : Nat) (sz mo : Int) (B : List Int) (s : ad.St) (he : s.ended = false) : aE Tryz.prog 148 [.pointer (some ⟨b, 0, none⟩)] [MM b bl sz mo B s] (aO fun v G => v = .slice none 0 0 ∧ G = [MM b bl sz mo B s]) := by
 refine au [(0, _)] Tryz.func148 rfl Tryz.ntmps148 rfl rfl ?_
 intro w0 F
 refine rT bu 9 rfl ?_
 refine ai (pQ b bl sz mo B s) V.pD  rfl (ar .nil) rfl ?_
 rintro _ _ ⟨rfl, rfl⟩
 rw [he]
 refine rO bu 11 rfl ?_
 exact ak (aB rfl) ⟨rfl, rfl⟩ (sub (ar .nil) aw)
set_option maxHeartbeats 1000000 in
theorem EG (b bl : Nat) (sz mo : Int) (B : List Int) (s : ad.St) (hok : ad.Ok B mo s) (hm : mo < 500000000) (he : s.ended = true) : aE Tryz.prog 148 [.pointer (some ⟨b, 0, none⟩)] [MM b bl sz mo B s] (aO fun v G => ∃ q c, v = .slice q s.out.length c ∧ G = [Row U5 q s.out.length c s.out, MM b bl sz mo B s]) := by
 refine au [(0, _)] Tryz.func148 rfl Tryz.ntmps148 rfl rfl ?_
 intro w0 F
 refine rT bu 9 rfl ?_
 refine ai (pQ b bl sz mo B s) V.pD  rfl (ar .nil) rfl ?_
 rintro _ _ ⟨rfl, rfl⟩
 rw [he]
 refine rO bu 7 rfl ?_
 have hro := hok.room
 refine gk dS (fun h hh => jQ hh) ?_
 rintro ⟨li, di⟩ _
 dsimp only
 simp only [List.cons_append, List.nil_append]
 refine gC (fun h hh => iO hh) ?_
 rintro ⟨po, co⟩ _
 dsimp only
 simp only [List.cons_append, List.nil_append]
 refine rC bu 4 rfl ?_
 refine oV (ae V.ez rfl an rfl) ?_
 refine ai (oo po co s.out (Row U5 po s.out.length co s.out) (fun _ _ hh => hh.rd) (by omega)) V.yg  rfl (.cons az .nil) rfl ?_
 rintro _ _ ⟨q10, c10, rfl, rfl⟩
 refine rO bu 4 rfl ?_
 exact ak (aB rfl) ⟨q10, c10, rfl, rfl⟩ (Sl.Sub.trans ((aX (.cons bX (.cons az .nil)) .refl (fun w0 h hh => dr (s := s) rfl hh)).trans (aX (ar (.cons az (.cons az .nil))) .refl (fun w0 h hh => fp (s := s) hh))) (sub (.cons az (ar .nil)) aw))
set_option maxHeartbeats 1000000 in
theorem yM (b bl : Nat) (sz mo : Int) (e : Int) : aE Tryz.prog 148 [.pointer (some ⟨b, 0, none⟩)] [MD b bl sz mo e] (aO fun v G => ∃ q c, v = .slice q 0 c ∧ G = [Row U5 q 0 c [], MD b bl sz mo e]) := by
 refine au [(0, _)] Tryz.func148 rfl Tryz.ntmps148 rfl rfl ?_
 intro w0 F
 refine rT bu 9 rfl ?_
 refine ai (qM b bl sz mo e) V.pD  rfl (ar .nil) rfl ?_
 rintro _ _ ⟨rfl, rfl⟩
 refine rO bu 7 rfl ?_
 refine gk dS (fun h hh => oa hh) ?_
 rintro ⟨v3, v4, v5, v6, v7, v8, v9, v10, v11, v12⟩ _
 dsimp only
 simp only [List.cons_append, List.nil_append]
 refine gT (Row U5 none 0 0 []) (Row.nil _ _ _) ?_
 refine rC bu 4 rfl ?_
 refine oV (ae V.ez rfl bW rfl) ?_
 refine ai (oo none 0 [] (Row U5 none 0 0 []) (fun _ _ hh => hh.rd) (by decide)) V.yg  rfl (ar .nil) rfl ?_
 rintro _ _ ⟨q10, c10, rfl, rfl⟩
 refine rO bu 4 rfl ?_
 exact ak (aB rfl) ⟨q10, c10, rfl, rfl⟩ (Sl.Sub.trans (aX (.cons bX .nil) .refl (fun w0 h hh => j9 hh)) (sub (.cons az (ar .nil)) cC))
theorem C3 (b bl : Nat) (sz mo : Int) (B : List Int) (s : ad.St) (he : s.ended = false) : aE Tryz.prog 149 [.pointer (some ⟨b, 0, none⟩)] [MM b bl sz mo B s] (aO fun v G => v = .int .i64 0 ∧ G = [MM b bl sz mo B s]) := by
 refine au [(0, _)] Tryz.func149 rfl Tryz.ntmps149 rfl rfl ?_
 intro w0 F
 refine rT bu 9 rfl ?_
 refine ai (pQ b bl sz mo B s) V.pD  rfl (ar .nil) rfl ?_
 rintro _ _ ⟨rfl, rfl⟩
 rw [he]
 refine rO bu 18 rfl ?_
 exact ak (aB rfl) ⟨rfl, rfl⟩ (sub (ar .nil) aw)
theorem yj (b bl : Nat) (sz mo : Int) (e : Int) (hE : e ≠ 0) : aE Tryz.prog 149 [.pointer (some ⟨b, 0, none⟩)] [MD b bl sz mo e] (aO fun v G => v = .int .i64 0 ∧ G = [MD b bl sz mo e]) := by
 refine au [(0, _)] Tryz.func149 rfl Tryz.ntmps149 rfl rfl ?_
 intro w0 F
 refine rT bu 9 rfl ?_
 refine ai (qM b bl sz mo e) V.pD  rfl (ar .nil) rfl ?_
 rintro _ _ ⟨rfl, rfl⟩
 refine BB dS (fun h hh => oa hh) ?_
 rintro ⟨v3, v4, v5, v6, v7, v8, v9, v10, v11, v12⟩ _
 dsimp only
 simp only [List.cons_append, List.nil_append]
 refine rO bu 5 rfl ?_
 refine ag rfl ?_
 refine oV (ae V.rj rfl an rfl) ?_
 refine ag rfl ?_
 refine oV (aY (bY rfl rfl) hE) ?_
 refine rO bu 11 rfl ?_
 exact ak (aB rfl) ⟨rfl, rfl⟩ (aX (ar .nil) aw (fun w0 h hh => j9 hh))
set_option maxHeartbeats 1000000 in
theorem BI (b bl : Nat) (mo : Int) (B : List Int) (s : ad.St) (hl : B.length < 500000000) (hok : ad.Ok B mo s) (hm : mo < 1000000000) (he : s.ended = true) : aE Tryz.prog 149 [.pointer (some ⟨b, 0, none⟩)] [MM b bl (B.length : Int) mo B s] (aO fun v G => v = .int .i64 (((s.at_ + 7) / 8 : Nat) : Int) ∧ G = [MM b bl (B.length : Int) mo B s]) := by
 refine au [(0, _)] Tryz.func149 rfl Tryz.ntmps149 rfl rfl ?_
 intro w0 F
 refine rT bu 9 rfl ?_
 refine ai (pQ b bl (B.length : Int) mo B s) V.pD  rfl (ar .nil) rfl ?_
 rintro _ _ ⟨rfl, rfl⟩
 rw [he]
 refine BB dS (fun h hh => jQ hh) ?_
 rintro ⟨li, di⟩ _
 dsimp only
 simp only [List.cons_append, List.nil_append]
 refine Fm (fun h hh => iO hh) ?_
 rintro ⟨po, co⟩ _
 dsimp only
 simp only [List.cons_append, List.nil_append]
 have hat := hok.at_
 refine rO bu 5 rfl ?_
 refine ag rfl ?_
 refine oV (ae V.rj rfl an rfl) ?_
 refine ag rfl ?_
 refine oV (aA (bY rfl rfl) (by decide)) ?_
 refine rO bu 7 rfl ?_
 refine wN [pz 0 [] [0], pz 1 [0] [], pz 3 [1] [], pz 7 [2] [], pz 0 [] [0], pz 16 [4] [], pz 48 [5] [], pz 112 [6] [], pz 240 [7] [], pz 496 [8] [], pz 1023 [3, 9] [], pz 2047 [10] []] [⟨fun y => ao b 223 [.pointer (some ⟨bl, 0, none⟩), .int .i64 (B.length : Int), .int .i64 mo, .slice po s.out.length co, .bool s.ended, .int .i64 0, .int .i64 s.kind, .int .i64 (s.left : Int), .bool s.last, li, di, .int .i64 (s.ay : Int), .int .i64 (s.cx : Int)], none, none, [3, 7]⟩, ⟨fun y => Row U5 po s.out.length co s.out, none, none, []⟩, ⟨fun y => LW bl B s.at_ [] 0, none, some 8, []⟩, ⟨fun y => CD li di s, none, none, []⟩, ⟨fun y => LW bl B s.at_ [] 0, some 8, none, []⟩] F V.mixed ?_
 refine nM ?_
 refine nN ?_
 refine nG V.LG ?_
 refine nR (fun y FF hA => ae V.s3 rfl an rfl) ?_
 refine nM ?_
 refine nN ?_
 refine nG V.eJ ?_
 refine nR (fun y FF hA => ae V.dO rfl an rfl) ?_
 refine nE (fun y FF hA => bK (Post := [LW bl B s.at_ [] 0]) (LZ bl B s.at_ [] 0 hl hok.at_) V.O7 rfl (ar .nil) (fun v G h => by rcases h with ⟨rfl, rfl⟩; exact ⟨rfl, .refl _⟩)) ?_
 refine nV (fun y hA L => fR rfl rfl (by omega) (jH (by omega) (by omega) (by omega))) ?_
 refine nV (fun y hA L => gh rfl rfl wI) ?_
 refine nA ?_
 refine aU ?_
 intro y hA
 clear hA
 refine ba ?_
 refine bZ _ (.cons (d := 2) rfl (.nil _)) ?_
 refine bP (M := ao b 223 [.pointer (some ⟨bl, 0, none⟩), .int .i64 (B.length : Int), .int .i64 mo, .slice po s.out.length co, .bool s.ended, .int .i64 0, .int .i64 s.kind, .int .i64 (s.left : Int), .bool s.last, li, di, .int .i64 (s.ay : Int), .int .i64 (s.cx : Int)] :: Row U5 po s.out.length co s.out :: CD li di s :: LW bl B s.at_ [] 0 :: F) (fun _ _ h => h) ?_
 refine rC bu 1 rfl ?_
 rw [show (B.length : Int) - (8 * (B.length : Int) - (s.at_ : Int)) / 8 = (((s.at_ + 7) / 8 : Nat) : Int) from by omega]
 exact ak (aB rfl) ⟨rfl, rfl⟩ (Sl.Sub.trans ((aX (bD .nil) .refl (fun w0 h hh => dr (s := s) rfl hh)).trans (aX (ar (.cons az (.cons dS .nil))) .refl (fun w0 h hh => fp (s := s) hh))) (sub (ar .nil) aw))
end Go.Proofs.YtmaiakpjgomnpaaGreat
namespace Go.Proofs.YtmaiakpjgomnpaaGreat
open Go.Sl 
theorem fq : dR Tryz.prog ⟨[22], [(223, 4, 4), (223, 5, 5)]⟩ = true := by kernel_rfl
attribute [local irreducible] af.bU af.tk af.ord af.cK af.words af.c9 ad.iG ad.de ad.dz ad.eo ad.hL ad.hD ad.hC ad.fz ad.told ad.fT ad.jo ad.rep ad.fo ad.eG ad.sym ad.dG aj.aS ad.eY ad.dM ad.one ad.eX
set_option maxHeartbeats 1000000 in
theorem MY (p : Option Addr) (cap : Nat) (B : List Int) (R : ab) (hR : ∀ w0 h, R w0 h → aR U5 p B.length B w0 h) (hl : B.length < 500000000) (mo : Int) (hm : 0 ≤ mo) : aE Tryz.prog 145 [.slice p B.length cap, .int .i64 mo] [R] (aO fun v G => ∃ b bl, v = .pointer (some ⟨b, 0, none⟩) ∧ G = [MM b bl (B.length : Int) mo B ad.start, R]) := by
 refine au [(0, _), (1, _)] Tryz.func145 rfl Tryz.ntmps145 rfl rfl ?_
 intro w0 F
 refine rT fq 8 rfl ?_
 refine ai (xb p cap B R hR hl) V.I0  rfl (ar .nil) rfl ?_
 rintro _ _ ⟨bl7, rfl, rfl⟩
 refine rO fq 3 rfl ?_
 refine oV (cD V.FH V.LA rfl (cs := [_, _, _, _, _, _, _, _, _, _, _, _, _]) rfl) ?_
 refine eL rfl (cs := [_, _, _, _, _, _, _, _, _, _, _, _, _]) rfl rfl ?_
 intro b12
 refine rO fq 7 rfl ?_
 refine oV (aA (bo rfl rfl) (by omega)) ?_
 refine rO fq 6 rfl ?_
 refine gT (Row U5 none 0 0 []) (Row.nil _ _ _) ?_
 refine rC fq 6 rfl ?_
 exact ak (aB rfl) ⟨b12, bl7, rfl, rfl⟩ (Sl.Sub.trans (Sl.Sub.trans (aX (.cons az (ar .nil)) .refl (fun w0 h hh => dr (s := ad.start) (li := .pointer none) (di := .pointer none) rfl hh)) (aX (bD .nil) .refl (fun w0 h hh => nw (s := ad.start) (by decide) hh))) (sub (bD .nil) aw))
set_option maxHeartbeats 1000000 in
theorem Gm (p : Option Addr) (cap : Nat) (B : List Int) (R : ab) (hR : ∀ w0 h, R w0 h → aR U5 p B.length B w0 h) (hl : B.length < 500000000) (mo : Int) (hm : mo < 0) : aE Tryz.prog 145 [.slice p B.length cap, .int .i64 mo] [R] (aO fun v G => ∃ b bl, v = .pointer (some ⟨b, 0, none⟩) ∧ G = [MD b bl (B.length : Int) mo 1, R]) := by
 refine au [(0, _), (1, _)] Tryz.func145 rfl Tryz.ntmps145 rfl rfl ?_
 intro w0 F
 refine rT fq 8 rfl ?_
 refine ai (xb p cap B R hR hl) V.I0  rfl (ar .nil) rfl ?_
 rintro _ _ ⟨bl7, rfl, rfl⟩
 refine rO fq 3 rfl ?_
 refine oV (cD V.FH V.LA rfl (cs := [_, _, _, _, _, _, _, _, _, _, _, _, _]) rfl) ?_
 refine eL rfl (cs := [_, _, _, _, _, _, _, _, _, _, _, _, _]) rfl rfl ?_
 intro b12
 refine rO fq 7 rfl ?_
 refine oV (aY (bo rfl rfl) (by omega)) ?_
 refine rO fq 8 rfl ?_
 refine aT (bT V.s4 rfl rfl rfl (by exact cZ) (by exact Nat.le_of_ble_eq_true rfl) rfl) ?_
 refine rO fq 2 rfl ?_
 refine aT (bT V.rj rfl rfl rfl (by exact cZ) (by exact Nat.le_of_ble_eq_true rfl) rfl) ?_
 refine rO fq 9 rfl ?_
 exact ak (aB rfl) ⟨b12, bl7, rfl, rfl⟩ (Sl.Sub.trans (aX (ar .nil) .refl (fun w0 h hh => j9 hh)) (sub (ar (.cons az .nil)) cC))
theorem aE.Mq {P : Program} {f : FuncId} {args : List Value} {Pre Gs : List ab} {v0 : Value} {A : ab} (h : aE P f args Pre (aO fun v G => v = v0 ∧ G = Gs)) (hA : ∀ w0, A w0 (fun _ => none)) : aE P f args Pre (aO fun v G => v = v0 ∧ G = A :: Gs) := fun w0 F w hi => (h w0 F w hi).mono fun e w' ⟨G, h1, v, h2, h3, h4⟩ => by
 subst h2; subst h3; subst h4
 exact ⟨A :: G, h1.vM (hA w0), _, rfl, rfl, rfl⟩
section
variable (b bl : Nat) (mo : Int) (B : List Int) (r : ad.Jt)
theorem Gi (sz : Int) : aE Tryz.prog 146 [.pointer (some ⟨b, 0, none⟩)] [MJ b bl sz mo B r] (aO fun v G => v = .bool (ad.kB r) ∧ G = [MJ b bl sz mo B r]) := by
 cases r with
 | ok s => exact pQ b bl sz mo B s
 | error e => exact qM b bl sz mo e
theorem IW (sz : Int) : aE Tryz.prog 150 [.pointer (some ⟨b, 0, none⟩)] [MJ b bl sz mo B r] (aO fun v G => v = .int .i64 (ad.zE r) ∧ G = [MJ b bl sz mo B r]) := by
 cases r with
 | ok s => exact Nk b bl sz mo B s
 | error e => exact AM b bl sz mo e
theorem Hk (hl : B.length < 500000000) (hm : mo < 500000000) (hok : ad.uQ B mo r) : aE Tryz.prog 149 [.pointer (some ⟨b, 0, none⟩)] [MJ b bl (B.length : Int) mo B r] (aO fun v G => v = .int .i64 (ad.re r) ∧ G = [MJ b bl (B.length : Int) mo B r]) := by
 cases r with
 | ok s =>
  cases he : s.ended with
  | true => rw [show ad.re (.ok s) = (((s.at_ + 7) / 8 : Nat) : Int) from if_pos he]; exact BI b bl mo B s hl hok (by omega) he
  | false => rw [show ad.re (.ok s) = 0 from if_neg (by rw [he]; decide)]; exact C3 b bl (B.length : Int) mo B s he
 | error e => exact yj b bl (B.length : Int) mo e hok
theorem KS (sz : Int) (hm : mo < 500000000) (hok : ad.uQ B mo r) : aE Tryz.prog 148 [.pointer (some ⟨b, 0, none⟩)] [MJ b bl sz mo B r] (aO fun v G => ∃ q c, v = .slice q (ad.qA r).length c ∧ G = [Row U5 q (ad.qA r).length c (ad.qA r), MJ b bl sz mo B r]) := by
 cases r with
 | ok s =>
  cases he : s.ended with
  | true => rw [show ad.qA (.ok s) = s.out from if_pos he]; exact EG b bl sz mo B s hok hm he
  | false => rw [show ad.qA (.ok s) = [] from if_neg (by rw [he]; decide)]; exact (aE.Mq (H4 b bl sz mo B s he) (A := Row U5 none 0 0 []) (fun w0 => Row.nil U5 w0 _)).mono fun e G ⟨v, h1, h2, h3⟩ => ⟨v, h1, none, 0, h2, h3⟩
 | error e => exact yM b bl sz mo e
theorem Hb (sz n : Int) (r' : ad.Jt) (hl : B.length < 500000000) (hB : aj.av B) (hm : mo < 500000000) (hok : ad.uQ B mo r) (hst : ad.Ac B mo n r r') : aE Tryz.prog 147 [.pointer (some ⟨b, 0, none⟩), .int .i64 n] [MJ b bl sz mo B r] (aO fun v G => v = .bool (ad.kB r') ∧ G = [MJ b bl sz mo B r']) := by
 rcases hst with ⟨hx, rfl⟩ | ⟨hn1, s, rfl, he, hl2⟩
 ·cases r' with
  | ok s => exact DQ b bl sz mo B s n hok (by omega) hx
  | error e => exact Du b bl sz mo e n
 ·cases r' with
  | ok s2 => exact DT b bl sz mo B s n hl hB hn1 hok (by omega) he s2 hl2
  | error e => exact ET b bl sz mo B s n hl hB hn1 hok (by omega) he e (ad.Fj hl2 rfl) hl2
end
attribute [local irreducible] ad.qA ad.re ad.zE ad.kB ad.Ou
set_option maxHeartbeats 1000000 in
theorem Hw (p : Option Addr) (cap : Nat) (B : List Int) (R : ab) (hR : ∀ w0 h, R w0 h → aR U5 p B.length B w0 h) (hl : B.length < 500000000) (hB : aj.av B) (mo : Int) (hm : 0 ≤ mo ∧ mo < 500000000) (q : List Int × Int × Int) (hq : ad.jO B mo q) : aE Tryz.prog 119 [.slice p B.length cap, .int .i64 mo] [R] (aO fun v G => ∃ qq cq, v = .tuple #[.slice qq q.1.length cq, .int .i64 q.2.1, .int .i64 q.2.2] ∧ G = [Row U5 qq q.1.length cq q.1, R]) := by
 refine au [(0, _), (1, _)] Tryz.func119 rfl Tryz.ntmps119 rfl rfl ?_
 intro w0 F
 refine rT fq 11 rfl ?_
 refine ai (MY p cap B R hR hl mo hm.1) V.Kb  rfl (ar .nil) rfl ?_
 rintro _ _ ⟨b10, bl7, rfl, rfl⟩
 refine rO fq 5 rfl ?_
 refine bP (M := MJ b10 bl7 (B.length : Int) mo B (.ok ad.start) :: R :: F) (fun _ _ h => h) ?_
 refine dX (fun (r : ad.Jt) => [(7, .pointer (some ⟨b10, 0, none⟩))]) (fun (r : ad.Jt) => MJ b10 bl7 (B.length : Int) mo B r :: R :: F) (fun (r : ad.Jt) => ad.uQ B mo r ∧ ad.CS B mo ad.start r) (fun (r : ad.Jt) => ad.Bf B r) (i1 (.ok ad.start) ?_ (kJ ln) (sub (bD .nil) aw)) ?_
 ·exact ⟨ad.oU hm.1, ad.iz.refl _ _ _⟩
 intro r
 rintro ⟨hok, hat⟩
 refine rL fq 4 rfl ?_
 refine ai (Gi b10 bl7 mo B r (B.length : Int)) V.pD  rfl (ar .nil) rfl ?_
 rintro _ _ ⟨rfl, rfl⟩
 refine oV (kO rfl) ?_
 refine rO fq 2 rfl ?_
 refine tj rfl (fun h13 => ?_) (fun h13 => ?_)
 ·refine rC fq 3 rfl ?_
  have he : ad.kB r = false := by simpa using h13
  obtain ⟨r2, hst⟩ := ad.C9 hB hok 1048576
  have hgj := ad.Ah hB hok hat hst
  refine rC fq 2 rfl ?_
  refine ai (Hb b10 bl7 mo B r (B.length : Int) 1048576 r2 hl hB hm.2 hok hst) V.O4  rfl (ar .nil) rfl ?_
  rintro _ _ ⟨rfl, rfl⟩
  refine rO fq 2 rfl ?_
  refine j1 (r2) ?_ (kJ ln) (sub (bD .nil) aw)
  exact ⟨⟨hgj.ok, hgj.at_⟩, hgj.less he (by decide)⟩
 ·refine rC fq 6 rfl ?_
  have he : ad.kB r = true := by simpa using h13
  obtain rfl := hq.CL (ad.H9 hm.1 hat he)
  refine rC fq 2 rfl ?_
  refine ai (KS b10 bl7 mo B r (B.length : Int) hm.2 hok) V.JA  rfl (ar .nil) rfl ?_
  rintro _ _ ⟨q17, c17, rfl, rfl⟩
  refine oV (aJ rfl) ?_
  refine ai (Hk b10 bl7 mo B r hl hm.2 hok) V.KA  rfl (.cons az .nil) rfl ?_
  rintro _ _ ⟨rfl, rfl⟩
  refine oV (aJ rfl) ?_
  refine ai (IW b10 bl7 mo B r (B.length : Int)) V.K6  rfl (ar .nil) rfl ?_
  rintro _ _ ⟨rfl, rfl⟩
  refine rO fq 6 rfl ?_
  exact ak (Ll rfl rfl rfl) ⟨q17, c17, rfl, rfl⟩ (sub (.cons az (.cons az .nil)) cC)
set_option maxHeartbeats 1000000 in
theorem HL (p : Option Addr) (cap : Nat) (B : List Int) (R : ab) (hR : ∀ w0 h, R w0 h → aR U5 p B.length B w0 h) (hl : B.length < 500000000) (mo : Int) (hm : mo < 0) (q : List Int × Int × Int) (hq : ad.jO B mo q) : aE Tryz.prog 119 [.slice p B.length cap, .int .i64 mo] [R] (aO fun v G => ∃ qq cq, v = .tuple #[.slice qq q.1.length cq, .int .i64 q.2.1, .int .i64 q.2.2] ∧ G = [Row U5 qq q.1.length cq q.1, R]) := by
 obtain rfl := hq.CL (.inl ⟨hm, rfl⟩)
 refine au [(0, _), (1, _)] Tryz.func119 rfl Tryz.ntmps119 rfl rfl ?_
 intro w0 F
 refine rT fq 11 rfl ?_
 refine ai (Gm p cap B R hR hl mo hm) V.Kb  rfl (ar .nil) rfl ?_
 rintro _ _ ⟨b10, bl7, rfl, rfl⟩
 refine rO fq 5 rfl ?_
 refine dX (fun (z : Nat) => [(7, .pointer (some ⟨b10, 0, none⟩))]) (fun (z : Nat) => MD b10 bl7 (B.length : Int) mo 1 :: R :: F) (fun (z : Nat) => True) (fun (z : Nat) => z) (i1 (0) ?_ (kJ ln) (sub (bD .nil) aw)) ?_
 ·exact trivial
 intro z
 rintro -
 refine rL fq 4 rfl ?_
 refine ai (qM b10 bl7 (B.length : Int) mo 1) V.pD  rfl (ar .nil) rfl ?_
 rintro _ _ ⟨rfl, rfl⟩
 refine rO fq 12 rfl ?_
 refine ai (yM b10 bl7 (B.length : Int) mo 1) V.JA  rfl (ar .nil) rfl ?_
 rintro _ _ ⟨q17, c17, rfl, rfl⟩
 refine oV (aJ rfl) ?_
 refine ai (yj b10 bl7 (B.length : Int) mo 1 (by decide)) V.KA  rfl (.cons az .nil) rfl ?_
 rintro _ _ ⟨rfl, rfl⟩
 refine oV (aJ rfl) ?_
 refine ai (AM b10 bl7 (B.length : Int) mo 1) V.K6  rfl (ar .nil) rfl ?_
 rintro _ _ ⟨rfl, rfl⟩
 refine rO fq 6 rfl ?_
 exact ak (Ll rfl rfl rfl) ⟨q17, c17, rfl, rfl⟩ (sub (.cons az (.cons az .nil)) cC)
theorem NA (p : Option Addr) (cap : Nat) (B : List Int) (R : ab) (hR : ∀ w0 h, R w0 h → aR U5 p B.length B w0 h) (hl : B.length < 500000000) (hB : aj.av B) (mo : Int) (hm : mo < 500000000) (q : List Int × Int × Int) (hq : ad.jO B mo q) : aE Tryz.prog 119 [.slice p B.length cap, .int .i64 mo] [R] (aO fun v G => ∃ qq cq, v = .tuple #[.slice qq q.1.length cq, .int .i64 q.2.1, .int .i64 q.2.2] ∧ G = [Row U5 qq q.1.length cq q.1, R]) := by
 by_cases h : mo < 0
 ·exact HL p cap B R hR hl mo h q hq
 ·exact Hw p cap B R hR hl hB mo ⟨by omega, hm⟩ q hq
end Go.Proofs.YtmaiakpjgomnpaaGreat
namespace Go.Proofs.YtmaiakpjgomnpaaGreat
open Go.Sl 
attribute [local irreducible] af.bU af.tk af.ord af.cK af.words af.c9 ad.iK ad.iG
attribute [local irreducible] af.wd af.me af.kv af.ot
end Go.Proofs.YtmaiakpjgomnpaaGreat
namespace Go.Proofs.YtmaiakpjgomnpaaGreat
open Go.Sl 
end Go.Proofs.YtmaiakpjgomnpaaGreat
namespace Go.Proofs.YtmaiakpjgomnpaaGreat
open Go.Sl 
attribute [local irreducible] af.bU af.tk af.ord af.cK af.words af.c9 af.me af.kv af.ot af.wb af.ins af.bits
end Go.Proofs.YtmaiakpjgomnpaaGreat
namespace Go.Sl
abbrev TK : Ec aQ.dZ := ⟨245, 3, fun t => [.int .i64 t.lit, .int .i64 t.n, .int .i64 t.cx], ⟨0, 0, 0⟩, fun _ => rfl, fun _ => rfl⟩
end Go.Sl
namespace Go.Proofs.YtmaiakpjgomnpaaGreat
open Go.Sl 
attribute [local irreducible] List.replicate aQ.hs aQ.x3 aQ.Ak aQ.tc aQ.JR aQ.qV aQ.ur aQ.vf
end Go.Proofs.YtmaiakpjgomnpaaGreat
namespace Go.Proofs.YtmaiakpjgomnpaaGreat
open Go.Sl 
attribute [local irreducible] aQ.sB aQ.zK aQ.tP aQ.DR aQ.ES aQ.tR aQ.DE aQ.EC aQ.um aQ.qE af.bU af.wb af.ord af.cK af.words af.c9 af.me af.kv af.ot
end Go.Proofs.YtmaiakpjgomnpaaGreat
namespace Go.Proofs.YtmaiakpjgomnpaaGreat
open Go.Sl 
attribute [local irreducible] aQ.FJ aQ.Kz aQ.dn aQ.rr aQ.DO aQ.w9 aQ.vq aQ.vC aQ.Dq aQ.N5 aQ.Oi aQ.tP aQ.DR aQ.ES aQ.tR aQ.DE aQ.EC List.replicate
end Go.Proofs.YtmaiakpjgomnpaaGreat
namespace Go.Sl
section
variable {C : Ctx} {E : Env} {L : List ab} {ty : TypeId}
theorem zw (l : List Int) : l.flatMap (fun x => [Value.int .u8 x]) = l.map (Value.int .u8) := by
  induction l with
  | nil => rfl
  | cons a l ih => simp [List.flatMap_cons, ih]
theorem lZ {T : TypeId} {x : Operand} {src dst e : TypeId} {p : Option Addr} {n cap : Nat} {l : List Int} (hs : C.P.underlying src = some (.slice e)) (he : C.P.underlying e = some (.int .u8)) (hd : C.P.underlying dst = some .string) (hx : aq E x = some (.slice p n cap)) (H : Has C.w0 L (aP T .u8) p n l) : cA C (.convert src dst x) ty E L (.string (strOfNums l)) L :=
  fun d pos aft g a w ha hi => by
    refine ⟨w, .inl ?_, hi, fun h => by cases h⟩
    obtain ⟨R, hm, hR⟩ := H
    have hh := hi.mem hm
    have hlen : l.length = n := Has.len ⟨R, hm, hR⟩ hi
    obtain ⟨e1, e2⟩ := hi.rd hm (fun h hh => (hR h hh).2)
    have hconv : (convert src dst (.slice p n cap)).run C.P w = .ok (.string (strOfNums l)) w := by
      cases p with
      | none =>
        have h0 : n = 0 := by
          rcases e2 with h | ⟨b, o, h, _⟩
          · exact h
          · cases h
        have hl : l = [] := List.length_eq_zero_iff.1 (by omega)
        rw [run_convert_bytes_nil w src e hs he n cap dst hd, hl]
        rfl
      | some q =>
        rcases e2 with h | ⟨b, o, h, hc⟩
        · have hl : l = [] := List.length_eq_zero_iff.1 (by omega)
          subst hl
          subst h
          rw [run_convert_bytes_string w src dst e _ 0 cap hs he hd, run_bytesToString w q 0 cap [] (by simp [loadCells, loadCellsFrom])]
          rfl
        · cases h
          refine run_convert_bytes_arg w src e hs he b o n cap l hlen (fun i hi2 => ?_) dst hd
          refine hc i _ ?_
          rw [zw]
          have hil : i < l.length := by omega
          simp [List.getElem?_map, List.getD_eq_getElem?_getD, hil]
    simp only [execOp, ha.eval hx, Sem.run_bind, hconv, Result.andThen_ok, Sem.run_pure]
theorem Fw {x y : Operand} {t t' : TypeId} {s u : ByteArray} {r : Bool} (hx : aq E x = some (.string s)) (hy : aq E y = some (.string u)) (hr : (s.toList == u.toList) = r) : cA C (.binOp .eql t x y t') ty E L (.bool r) L :=
  dV fun d pos aft g a w ha => by
    rw [jR d pos aft g (ha.eval hx) (ha.eval hy) (by simp [eqGuard])]
    simp [binOp, Op.stringOp, ← hr, Sem.run_pure]
end
end Go.Sl
namespace Go.Sl
end Go.Sl
namespace Go.Sl
end Go.Sl
namespace Go.aj
theorem ew (n : Int) : IntKind.u8.wrap n = n % 256 := rfl
theorem qN {n : Int} (h0 : 0 ≤ n) (h1 : n < 2 ^ 62) : IntKind.i64.wrap ((BitVec.ofInt IntKind.i64.bits (-1) ^^^ BitVec.ofInt IntKind.i64.bits n).toNat : Int) = -n - 1 := by
  obtain ⟨a, rfl⟩ : ∃ a : Nat, n = (a : Int) := ⟨n.toNat, by omega⟩
  have e : IntKind.i64.bits = 64 := rfl
  have e1 : BitVec.ofInt 64 (-1) = BitVec.allOnes 64 := by decide
  rw [e, e1, BitVec.xor_comm, BitVec.xor_allOnes, BitVec.toNat_not, eC, Nat.mod_eq_of_lt (by omega)]
  have e2 : ∀ m : Int, IntKind.i64.wrap m = if m % 18446744073709551616 ≥ 9223372036854775808 then m % 18446744073709551616 - 18446744073709551616 else m % 18446744073709551616 := fun m => by
    unfold IntKind.wrap
    have s1 : IntKind.i64.signed = true := rfl
    simp only [s1, e, Bool.true_and, decide_eq_true_eq]
    rfl
  rw [e2]
  have : a < 2 ^ 62 := by omega
  split <;> omega
end Go.aj
namespace Go.Sl
section
variable {C : Ctx} {E : Env} {L : List ab} {ty : TypeId}
theorem ra {x : Operand} {t : TypeId} {n r : Int} (h : aq E x = some (.int .i64 n)) (e : IntKind.i64.wrap ((BitVec.ofInt IntKind.i64.bits (-1) ^^^ BitVec.ofInt IntKind.i64.bits n).toNat : Int) = r) : cA C (.unOp .xor t x) ty E L (.int .i64 r) L := dV fun d pos aft g a w ha => by
  rw [← e]
  have s1 : IntKind.i64.signed = true := rfl
  simp [execOp, ha.eval h, Op.unary, Op.intBits, s1]
end
end Go.Sl
namespace Go.Proofs.YtmaiakpjgomnpaaGreat
open Go.Sl 
attribute [local irreducible] aQ.jj aQ.iH ad.fW ad.fY af.bU af.ord af.cK af.words af.c9 af.wb af.ot af.kv af.me aQ.qE ad.iK ad.fT
theorem lL {c : Ec Int} {p : Option Addr} {n cap : Nat} {l : List Int} {R : ab} (hR : ∀ w0 h, R w0 h → aR c p n l w0 h) (k : Nat) (hk : k ≤ n) : ∀ w0 h, R w0 h → aR c p k (l.take k) w0 h := fun w0 h hh => by
  have := (hR w0 h hh).sub 0 k n (Nat.zero_le _) hk hk
  rwa [nm, Nat.sub_zero, List.drop_zero] at this
theorem gS {c : Ec Int} {p : Option Addr} {n : Nat} {l : List Int} {R : ab} (hR : ∀ w0 h, R w0 h → aR c p n l w0 h) (hl : l.length = n) (k m : Nat) (hk : k ≤ n) (hm : n ≤ m) : ∀ w0 h, R w0 h → aR c (eh p k m c.sz) (n - k) (l.drop k) w0 h := fun w0 h hh => by
  have := (hR w0 h hh).sub k n m hk (Nat.le_refl _) hm
  rwa [List.take_of_length_le (by rw [List.length_drop]; omega)] at this
end Go.Proofs.YtmaiakpjgomnpaaGreat
namespace Go.Proofs.YtmaiakpjgomnpaaGreat
open Go.Sl 
attribute [local irreducible] af.bU af.ord af.cK af.words af.c9 af.wb af.ot af.kv af.me aQ.qE ad.fT aj.lD aQ.FX aQ.w9 aQ.vC aQ.fA aQ.fB lA.tQ
abbrev Q2 : Ec (Int × Int) := ⟨246, 2, fun x => [.int .i64 x.1, .int .i64 x.2], (0, 0), fun _ => rfl, fun _ => rfl⟩
end Go.Proofs.YtmaiakpjgomnpaaGreat
namespace Go.Sl
structure Pc where
  w : Int
  p : Option Addr
  n : Nat
  c : Nat
  s : List Int
abbrev PC : Ec Pc := ⟨267, 2, fun x => [.int .i64 x.w, .slice x.p x.n x.c], ⟨0, none, 0, 0, []⟩, fun _ => rfl, fun _ => rfl⟩
structure Sx where
  p : Option Addr
  n : Nat
  c : Nat
abbrev PS : Ec Sx := ⟨265, 1, fun x => [.slice x.p x.n x.c], ⟨none, 0, 0⟩, fun _ => rfl, fun _ => rfl⟩
abbrev QS : Ec Sx := ⟨47, 1, fun x => [.slice x.p x.n x.c], ⟨none, 0, 0⟩, fun _ => rfl, fun _ => rfl⟩
def RB (B : List Pc) : ab := fun w0 h => dg w0 (B.map fun x => Row I3 x.p x.n x.c x.s) h
def R7 (xs : List Sx) (k : Nat) : Nat := ((xs.take k).map Sx.n).sum
def pk (x : Pc) : lA.Pk := (x.w, x.s)
def LL (po : Option Addr) (n co : Nat) (A0 : List Pc) (pl : Option Addr) (nl cl : Nat) (l : List Pc) : ab := fun w0 h => (Row PC po n co A0 w0 h ∧ pl = po ∧ nl = n ∧ cl = co ∧ l = A0) ∨ dg w0 [Row PC po n co A0, Row PC pl nl cl l] h
structure RZ (fr : List Int) (cY : Int) : Prop where
  m1 : 1 ≤ cY
  m2 : cY ≤ 15
  len : fr.length ≤ 320
  RR : ∀ i, i < fr.length → 0 ≤ fr.getD i 0 ∧ fr.getD i 0 ≤ 1048576
  Qa : (lA.JI fr fr.length).length ≤ 2 ^ cY.toNat
end Go.Sl
namespace Go.Proofs.YtmaiakpjgomnpaaGreat
open Go.Sl 
end Go.Proofs.YtmaiakpjgomnpaaGreat
namespace Go.Proofs.YtmaiakpjgomnpaaGreat
open Go.Sl 
end Go.Proofs.YtmaiakpjgomnpaaGreat
namespace Go.Proofs.YtmaiakpjgomnpaaGreat
open Go.Sl 
end Go.Proofs.YtmaiakpjgomnpaaGreat
namespace Go.Proofs.YtmaiakpjgomnpaaGreat
open Go.Sl Go.Shelf
def Mf : Go.Shelf.Ren := ⟨fun | 189 => 214 | 125 => 228 | 257 => 227 | 128 => 243 | 129 => 244 | 294 => 234 | 295 => 235 | 296 => 236 | 297 => 237 | 298 => 238 | 299 => 239 | 216 => 240 | 300 => 241 | 301 => 242 | 328 => 248 | 329 => 249 | 330 => 250 | 331 => 251 | 332 => 252 | 215 => 230 | 343 => 255 | n => n, fun | 28 => 47 | 3 => 3 | 46 => 52 | 0 => 0 | 51 => 76 | 53 => 302 | 4 => 4 | 183 => 295 | 182 => 294 | 131 => 125 | 5 => 5 | 9 => 9 | 218 => 305 | 222 => 309 | 228 => 311 | 229 => 210 | n => n, fun | n => n⟩
end Go.Proofs.YtmaiakpjgomnpaaGreat
namespace Go.Proofs.YtmaiakpjgomnpaaGreat
open Go.Sl 
end Go.Proofs.YtmaiakpjgomnpaaGreat
namespace Go.Proofs.YtmaiakpjgomnpaaGreat
open Go.Sl 
attribute [local irreducible] af.bU af.ord af.cK af.words af.c9 af.wb af.ot af.kv af.me aQ.qE ad.fT aj.lD aQ.FX aQ.w9 aQ.vC aQ.fA aQ.fB lA.tQ af.bits aQ.dA aQ.dB aQ.dF aQ.N9 aQ.EI aQ.D4 aQ.NT aQ.dN aQ.N4 List.replicate aQ.vq
end Go.Proofs.YtmaiakpjgomnpaaGreat
namespace Go.Proofs.YtmaiakpjgomnpaaGreat
open Go.Sl 
attribute [local irreducible] aQ.iH aQ.I1 aQ.LM aQ.ur aQ.sN aQ.nU
abbrev S8 : Ec Sx := ⟨22, 1, fun x => [.slice x.p x.n x.c], ⟨none, 0, 0⟩, fun _ => rfl, fun _ => rfl⟩
end Go.Proofs.YtmaiakpjgomnpaaGreat
namespace Go.Proofs.YtmaiakpjgomnpaaGreat
open Go.Sl 
attribute [local irreducible] aQ.nU
structure Dv where
  p1 : Option Addr
  n1 : Nat
  c1 : Nat
  t : Int
  p2 : Option Addr
  c2 : Nat
def DN (b : Nat) (B : List Int) (t : Nat) : ab := fun w0 h => ∃ i : Lv, True ∧ dg w0 [ao b 215 [.slice i.p1 B.length i.c1, .slice none 0 0, .int .i64 (t : Int), .bool false], Row U5 i.p1 B.length i.c1 B] h
def DD (b : Nat) (z : List Int) : ab := fun w0 h => ∃ i : Dv, True ∧ dg w0 [ao b 215 [.slice i.p1 i.n1 i.c1, .slice i.p2 z.length i.c2, .int .i64 i.t, .bool true], Row U5 i.p2 z.length i.c2 z] h
def DM (b : Nat) (B : List Int) : Option Nat → ab
  | some t => DN b B t
  | none => DD b (aQ.nU B)
def Rh (B : List Int) (s : Option Nat) (n : Int) : Option Nat :=
  match s with
  | none => none
  | some t => if n < 1 then some t else if (B.length : Int) ≤ t + n then none else some (t + n.toNat)
end Go.Proofs.YtmaiakpjgomnpaaGreat
namespace Go.Proofs.YtmaiakpjgomnpaaGreat
open Go.Sl 
attribute [local irreducible] aQ.nU
section
variable (b : Nat) (B : List Int) (s : Option Nat)
def R8 (B : List Int) : Option Nat → Prop
  | some t => t ≤ B.length
  | none => True
def RD (B : List Int) : Option Nat → List Int
  | some _ => []
  | none => aQ.nU B
end
end Go.Proofs.YtmaiakpjgomnpaaGreat
namespace Go.Proofs.YtmaiakpjgomnpaaGreat
open Go.Sl 
theorem Q4 : dR Tryz.prog ⟨[], [(151, 1, 1)]⟩ = true := by kernel_rfl
attribute [local irreducible] af.bU af.tk af.ord af.cK af.words af.c9 ad.iG ad.de ad.dz ad.eo ad.hL ad.hD ad.hC ad.fz ad.told ad.fT ad.jo ad.rep ad.fo ad.eG ad.sym ad.dG aj.aS ad.eY ad.dM ad.one ad.eX ad.p9 ad.sR ad.nf ad.nF
section
variable (b2 : Nat) (ls : List Int) (b : Nat) (p : Option Addr) (cap : Nat) (B : List Int) (R : ab) (hR : ∀ w0 h, R w0 h → aR U5 p B.length B w0 h) (sh : Bool) (a : Nat) (hE : af.bU ls = 0) (hl : B.length < 500000000) (hB : aj.av B) (ha : a ≤ 8 * B.length)
include hR hE hl hB ha
end
end Go.Proofs.YtmaiakpjgomnpaaGreat
namespace Go.Proofs.YtmaiakpjgomnpaaGreat
open Go.Sl 
theorem Q9 : dR Tryz.prog ⟨[22], []⟩ = true := by kernel_rfl
attribute [local irreducible] af.bU af.tk af.ord af.cK af.words af.c9 ad.iG ad.de ad.dz ad.eo ad.hL ad.hD ad.hC ad.fz ad.told ad.fT ad.jo ad.rep ad.fo ad.eG ad.sym ad.dG aj.aS ad.eY ad.dM ad.one ad.eX ad.p9 ad.sR ad.nf ad.nF
def PO (b : Nat) (p : Option Addr) (cap : Nat) (B : List Int) (R : ab) : Except Int ad.St → Value → List ab → Prop
 | .error e, v, G => v = .tuple #[.slice none 0 0, .int .i64 e] ∧ G = [R]
 | .ok S, v, G => ∃ q c sh, v = .tuple #[.slice q S.out.length c, .int .i64 0] ∧ G = [ao b 151 [.slice p B.length cap, .int .i64 (S.at_ : Int), .bool false, .bool sh], R, Row U5 q S.out.length c S.out]
end Go.Proofs.YtmaiakpjgomnpaaGreat
namespace Go.Proofs.YtmaiakpjgomnpaaGreat
open Go.Sl 
theorem QN : dR Tryz.prog ⟨[47], []⟩ = true := by kernel_rfl
attribute [local irreducible] af.bU af.tk af.ord af.cK af.words af.c9 ad.iG ad.de ad.dz ad.eo ad.hL ad.hD ad.hC ad.fz ad.told ad.fT ad.jo ad.rep ad.fo ad.eG ad.sym ad.dG aj.aS ad.eY ad.dM ad.one ad.eX ad.p9 ad.sR ad.nf ad.nF ad.o9 ad.xR ad.LD ad.lh
def PD (b : Nat) (p : Option Addr) (cap : Nat) (B : List Int) (R : ab) : Except Int (Nat × List Int × List Int) → Value → List ab → Prop
 | .error e, v, G => v = .tuple #[.pointer none, .pointer none, .int .i64 e] ∧ G = [R]
 | .ok (a, l, d), v, G => ∃ x y sh, v = .tuple #[.pointer (some ⟨x, 0, none⟩), .pointer (some ⟨y, 0, none⟩), .int .i64 0] ∧ G = [ao b 151 [.slice p B.length cap, .int .i64 (a : Int), .bool false, .bool sh], R, RC x l, RC y d]
end Go.Proofs.YtmaiakpjgomnpaaGreat
namespace Go.Proofs.YtmaiakpjgomnpaaGreat
open Go.Sl 
theorem Qj : dR Tryz.prog ⟨[], []⟩ = true := by kernel_rfl
attribute [local irreducible] af.bU af.tk af.ord af.cK af.words af.c9 ad.iG ad.de ad.dz ad.eo ad.hL ad.hD ad.hC ad.fz ad.told ad.fT ad.jo ad.rep ad.fo ad.eG ad.sym ad.dG aj.aS ad.eY ad.dM ad.one ad.eX ad.p9 ad.sR ad.nf ad.nF ad.lh
end Go.Proofs.YtmaiakpjgomnpaaGreat
namespace Go.Proofs.YtmaiakpjgomnpaaGreat
open Go.Sl
end Go.Proofs.YtmaiakpjgomnpaaGreat
namespace Go.Proofs.YtmaiakpjgomnpaaGreat
open Go.Sl 
theorem c4 : dR Tryz.prog ⟨[22], []⟩ = true := by kernel_rfl
attribute [local irreducible] aQ.nU ad.jO aQ.cY aj.av aL.fg
set_option maxHeartbeats 2000000 in
theorem Ke (p : Option Addr) (c : Nat) (B : List Int) (R : ab) (hR : ∀ w0 h, R w0 h → aR U5 p B.length B w0 h) (hl : B.length < 500000000) (hB : aj.av B) : aE Tryz.prog 160 [.int .u32 1, .slice p B.length c] [R] (aO fun v G => v = .int .u32 (aL.gb B) ∧ G = [R]) := by
 refine au [(0, _), (1, _)] Tryz.func160 rfl Tryz.ntmps160 rfl rfl ?_
 intro w0 F
 refine rT c4 8 rfl ?_
 refine oV (j0 (r := 1) rfl rfl rfl) ?_
 refine oV (aJ rfl) ?_
 refine oV (eg (r := 0) rfl rfl (by decide) rfl) ?_
 refine rO c4 13 rfl ?_
 rw [show ((5 : Nat), Value.int .u32 1) = (5, .int .u32 (aL.fg (B.take 0)).1) from by rw [List.take_zero, aL.rb], show ((6 : Nat), Value.int .u32 0) = (6, .int .u32 (aL.fg (B.take 0)).2) from by rw [List.take_zero, aL.rb]]
 refine dX (fun (i : Nat) => [(5, .int .u32 (aL.fg (B.take i)).1), (6, .int .u32 (aL.fg (B.take i)).2), (13, .slice p B.length c), (14, .int .i64 (B.length : Int)), (15, .int .i64 (i : Int))]) (fun (i : Nat) => R :: F) (fun (i : Nat) => i ≤ B.length) (fun (i : Nat) => B.length - i) (i1 (0) ?_ (dp ln) (sub (ar .nil) aw)) ?_
 ·exact Nat.zero_le _
 intro i
 rintro hi
 refine rL c4 6 rfl ?_
 refine aN rfl (fun h16 => ?_) (fun h16 => ?_)
 ·refine rC c4 6 rfl ?_
  refine oV (xI V.cy (by exact bE hR an)) ?_
  refine oV (xL V.s5 (by exact bE hR an)) ?_
  refine rO c4 4 rfl ?_
  have hv : 0 ≤ (U5.g B (i : Int)) ∧ (U5.g B (i : Int)) < 256 := hB.get i
  have hs := aL.pI (B.take i)
  refine rC c4 3 rfl ?_
  refine oV (bC V.u5 Tryz.underlying76 rfl (aL.wrap32 (by omega) (by omega))) ?_
  refine oV (dj rfl rfl (aL.wrap32 (by omega) (by omega))) ?_
  refine oV (hG (r := ((aL.fg (B.take i)).1 + (U5.g B (i : Int))) % 65521) rfl rfl (by omega) (jE (by omega))) ?_
  refine rO c4 6 rfl ?_
  refine oV (dj rfl rfl (aL.wrap32 (by omega) (by omega))) ?_
  refine oV (hG (r := ((aL.fg (B.take i)).2 + ((aL.fg (B.take i)).1 + (U5.g B (i : Int))) % 65521) % 65521) rfl rfl (by omega) (jE (by omega))) ?_
  refine cS c4 8 rfl (by omega) ?_
  have e5 : ((aL.fg (B.take i)).1 + (U5.g B (i : Int))) % 65521 = (aL.fg (B.take (i + 1))).1 := by rw [aL.oP (by omega)]; rfl
  have e6 : ((aL.fg (B.take i)).2 + (aL.fg (B.take (i + 1))).1) % 65521 = (aL.fg (B.take (i + 1))).2 := by rw [aL.oP (by omega)]; rfl
  rw [e5, e6]
  exact j1 (i + 1) ⟨by omega, by omega⟩ (dp ln) (sub (ar .nil) aw)
 ·refine rC c4 6 rfl ?_
  obtain rfl : i = B.length := by omega
  rw [List.take_length]
  have hs := aL.pI B
  refine rC c4 2 rfl ?_
  refine oV (fX (r := (aL.fg B).2 * 65536) rfl rfl (by decide) (aL.IS (n := 16) rfl (by decide) rfl (by omega) (by omega))) ?_
  refine oV (aJ rfl) ?_
  refine oV (mW (r := (aL.fg B).2 * 65536 + (aL.fg B).1) rfl rfl (aL.Iw (u := (aL.fg B).2) (n := 16) rfl (by omega) (by omega) (by omega))) ?_
  refine rO c4 4 rfl ?_
  exact ak (aB rfl) ⟨by unfold aL.gb; rfl, rfl⟩ (sub (ar .nil) aw)
set_option maxHeartbeats 2000000 in
theorem Ix (p : Option Addr) (c : Nat) (B : List Int) (R : ab) (hR : ∀ w0 h, R w0 h → aR U5 p B.length B w0 h) (hl : B.length < 500000000) (hB : aj.av B) : aE Tryz.prog 63 [.int .u32 1, .slice p B.length c] [R] (aO fun v G => v = .int .u32 (aL.gb B) ∧ G = [R]) := by
 refine au [(0, _), (1, _)] Tryz.func63 rfl Tryz.ntmps63 rfl rfl ?_
 intro w0 F
 refine rT c4 8 rfl ?_
 refine oV (j0 (r := 1) rfl rfl rfl) ?_
 refine oV (aJ rfl) ?_
 refine oV (eg (r := 0) rfl rfl (by decide) rfl) ?_
 refine rO c4 11 rfl ?_
 rw [show ((5 : Nat), Value.int .u32 1) = (5, .int .u32 (aL.fg (B.take 0)).1) from by rw [List.take_zero, aL.rb], show ((6 : Nat), Value.int .u32 0) = (6, .int .u32 (aL.fg (B.take 0)).2) from by rw [List.take_zero, aL.rb]]
 refine dX (fun (i : Nat) => [(1, .slice p B.length c), (5, .int .u32 (aL.fg (B.take i)).1), (6, .int .u32 (aL.fg (B.take i)).2), (7, .int .i64 (i : Int))]) (fun (i : Nat) => R :: F) (fun (i : Nat) => i ≤ B.length) (fun (i : Nat) => B.length - i) (i1 (0) ?_ (fZ ln) (sub (ar .nil) aw)) ?_
 ·exact Nat.zero_le _
 intro i
 rintro hi
 refine rL c4 9 rfl ?_
 refine aN rfl (fun h15 => ?_) (fun h15 => ?_)
 ·refine rC c4 5 rfl ?_
  have hv : 0 ≤ (U5.g B (i : Int)) ∧ (U5.g B (i : Int)) < 256 := hB.get i
  have hs := aL.pI (B.take i)
  refine rC c4 4 rfl ?_
  refine oV (xI V.cy (by exact bE hR an)) ?_
  refine oV (xL V.s5 (by exact bE hR an)) ?_
  refine oV (bC V.u5 Tryz.underlying76 rfl (aL.wrap32 (by omega) (by omega))) ?_
  refine oV (dj rfl rfl (aL.wrap32 (by omega) (by omega))) ?_
  refine oV (hG (r := ((aL.fg (B.take i)).1 + (U5.g B (i : Int))) % 65521) rfl rfl (by omega) (jE (by omega))) ?_
  refine rO c4 6 rfl ?_
  refine oV (dj rfl rfl (aL.wrap32 (by omega) (by omega))) ?_
  refine oV (hG (r := ((aL.fg (B.take i)).2 + ((aL.fg (B.take i)).1 + (U5.g B (i : Int))) % 65521) % 65521) rfl rfl (by omega) (jE (by omega))) ?_
  refine cS c4 9 rfl (by omega) ?_
  have e5 : ((aL.fg (B.take i)).1 + (U5.g B (i : Int))) % 65521 = (aL.fg (B.take (i + 1))).1 := by rw [aL.oP (by omega)]; rfl
  have e6 : ((aL.fg (B.take i)).2 + (aL.fg (B.take (i + 1))).1) % 65521 = (aL.fg (B.take (i + 1))).2 := by rw [aL.oP (by omega)]; rfl
  rw [e5, e6]
  exact j1 (i + 1) ⟨by omega, by omega⟩ (fZ ln) (sub (ar .nil) aw)
 ·refine rC c4 6 rfl ?_
  obtain rfl : i = B.length := by omega
  rw [List.take_length]
  have hs := aL.pI B
  refine rC c4 2 rfl ?_
  refine oV (fX (r := (aL.fg B).2 * 65536) rfl rfl (by decide) (aL.IS (n := 16) rfl (by decide) rfl (by omega) (by omega))) ?_
  refine oV (aJ rfl) ?_
  refine oV (mW (r := (aL.fg B).2 * 65536 + (aL.fg B).1) rfl rfl (aL.Iw (u := (aL.fg B).2) (n := 16) rfl (by omega) (by omega) (by omega))) ?_
  refine rO c4 4 rfl ?_
  exact ak (aB rfl) ⟨by unfold aL.gb; rfl, rfl⟩ (sub (ar .nil) aw)
theorem Ib (p : Option Addr) (c : Nat) (B : List Int) (R : ab) (hR : ∀ w0 h, R w0 h → aR U5 p B.length B w0 h) (hl : B.length < 500000000) (hB : aj.av B) : aE Tryz.prog 135 [.slice p B.length c] [R] (aO fun v G => v = .int .u32 (aL.gb B) ∧ G = [R]) := by
 refine au [(0, _)] Tryz.func135 rfl Tryz.ntmps135 rfl rfl ?_
 intro w0 F
 refine rT c4 8 rfl ?_
 refine ai (Ke p c B R hR hl hB) V.PT  rfl (ar .nil) rfl ?_
 rintro _ _ ⟨rfl, rfl⟩
 refine rO c4 4 rfl ?_
 exact ak (aB rfl) ⟨rfl, rfl⟩ (sub (ar .nil) aw)
set_option maxHeartbeats 2000000 in
theorem AY (p : Option Addr) (c : Nat) (B : List Int) (R : ab) (hR : ∀ w0 h, R w0 h → aR U5 p B.length B w0 h) (hl : 2 ≤ B.length) (hB : aj.av B) (t : Bool) (ht : t = decide (aL.Hd (B.getD 0 0) (B.getD 1 0))) : aE Tryz.prog 118 [.slice p B.length c] [R] (aO fun v G => v = .bool t ∧ G = [R]) := by
 refine au [(0, _)] Tryz.func118 rfl Tryz.ntmps118 rfl rfl ?_
 intro w0 F
 have hv : 0 ≤ (U5.g B 0) ∧ (U5.g B 0) < 256 := hB.get 0
 have hw : 0 ≤ (U5.g B 1) ∧ (U5.g B 1) < 256 := hB.get 1
 have ht2 : t = decide (aL.Hd (U5.g B 0) (U5.g B 1)) := ht
 clear ht
 refine rT c4 6 rfl ?_
 refine o1 V.mixed (by kernel_rfl) ?_
 refine oR (aJ rfl) ?_
 refine oR (xI V.cy (by exact bE hR an)) ?_
 refine oR (xL V.s5 (by exact bE hR an)) ?_
 refine oR (bC V.u5 Tryz.underlying3 rfl wI) ?_
 refine oR (aJ rfl) ?_
 refine oR (xI V.cy (by exact bE hR an)) ?_
 refine oR (xL V.s5 (by exact bE hR an)) ?_
 refine oR (bC V.u5 Tryz.underlying3 rfl wI) ?_
 refine rR c4 2 rfl ?_
 refine Rg.cB ?_
 refine ba ?_
 rcases (aL.Nt (U5.g B 0) (U5.g B 1)) with h1 | ⟨h1, h2⟩ | ⟨h1, h2, h3⟩ | ⟨h1, h2, h3, h4⟩ | ⟨h1, h2, h3, h4⟩
 ·refine rC c4 3 rfl ?_
  refine oV (j0 (r := (U5.g B 0) % 16) rfl rfl (aL.sS hv)) ?_
  refine oV (aA (aD rfl rfl) (by omega)) ?_
  refine rO c4 22 rfl ?_
  (obtain rfl : t = false := ht2.trans (decide_eq_false (by unfold aL.Hd; intro hh; omega)); exact ak (G := [R]) (aB rfl) ⟨rfl, rfl⟩ (sub (ar .nil) aw))
 ·refine rC c4 3 rfl ?_
  refine oV (j0 (r := (U5.g B 0) % 16) rfl rfl (aL.sS hv)) ?_
  refine oV (aY (aD rfl rfl) (by omega)) ?_
  refine rO c4 2 rfl ?_
  refine ag rfl ?_
  refine oV (eg (r := (U5.g B 0) / 16) rfl rfl (by decide) (aL.Gb hv.1)) ?_
  refine ag rfl ?_
  refine oV (aA (eH rfl rfl) (by omega)) ?_
  refine rO c4 18 rfl ?_
  (obtain rfl : t = false := ht2.trans (decide_eq_false (by unfold aL.Hd; intro hh; omega)); exact ak (G := [R]) (aB rfl) ⟨rfl, rfl⟩ (sub (ar .nil) aw))
 ·refine rC c4 3 rfl ?_
  refine oV (j0 (r := (U5.g B 0) % 16) rfl rfl (aL.sS hv)) ?_
  refine oV (aY (aD rfl rfl) (by omega)) ?_
  refine rO c4 2 rfl ?_
  refine ag rfl ?_
  refine oV (eg (r := (U5.g B 0) / 16) rfl rfl (by decide) (aL.Gb hv.1)) ?_
  refine ag rfl ?_
  refine oV (aY (eH rfl rfl) (by omega)) ?_
  refine rO c4 3 rfl ?_
  refine ag rfl ?_
  refine oV (fX (r := (U5.g B 0) * 256) rfl rfl (by decide) (aL.w7 (n := 8) rfl (by decide) rfl (by omega) (by omega))) ?_
  refine ag rfl ?_
  refine oV (aJ rfl) ?_
  refine ag rfl ?_
  refine oV (mW (r := (U5.g B 0) * 256 + (U5.g B 1)) rfl rfl (aL.qh (u := (U5.g B 0)) (n := 8) rfl hv.1 (by omega) (by omega))) ?_
  refine ag rfl ?_
  refine oV (hG (r := ((U5.g B 0) * 256 + (U5.g B 1)) % 31) rfl rfl (by omega) (jE (by omega))) ?_
  refine ag rfl ?_
  refine oV (aA (aD rfl rfl) (by omega)) ?_
  refine rO c4 10 rfl ?_
  (obtain rfl : t = false := ht2.trans (decide_eq_false (by unfold aL.Hd; intro hh; omega)); exact ak (G := [R]) (aB rfl) ⟨rfl, rfl⟩ (sub (ar .nil) aw))
 ·refine rC c4 3 rfl ?_
  refine oV (j0 (r := (U5.g B 0) % 16) rfl rfl (aL.sS hv)) ?_
  refine oV (aY (aD rfl rfl) (by omega)) ?_
  refine rO c4 2 rfl ?_
  refine ag rfl ?_
  refine oV (eg (r := (U5.g B 0) / 16) rfl rfl (by decide) (aL.Gb hv.1)) ?_
  refine ag rfl ?_
  refine oV (aY (eH rfl rfl) (by omega)) ?_
  refine rO c4 3 rfl ?_
  refine ag rfl ?_
  refine oV (fX (r := (U5.g B 0) * 256) rfl rfl (by decide) (aL.w7 (n := 8) rfl (by decide) rfl (by omega) (by omega))) ?_
  refine ag rfl ?_
  refine oV (aJ rfl) ?_
  refine ag rfl ?_
  refine oV (mW (r := (U5.g B 0) * 256 + (U5.g B 1)) rfl rfl (aL.qh (u := (U5.g B 0)) (n := 8) rfl hv.1 (by omega) (by omega))) ?_
  refine ag rfl ?_
  refine oV (hG (r := ((U5.g B 0) * 256 + (U5.g B 1)) % 31) rfl rfl (by omega) (jE (by omega))) ?_
  refine ag rfl ?_
  refine oV (aY (aD rfl rfl) (by omega)) ?_
  refine rO c4 3 rfl ?_
  refine ag rfl ?_
  refine oV (j0 (r := 32 * ((U5.g B 1) / 32 % 2)) rfl rfl (aL.E8 hw)) ?_
  refine ag rfl ?_
  refine oV (aA (aD rfl rfl) (by omega)) ?_
  refine rO c4 5 rfl ?_
  (obtain rfl : t = false := ht2.trans (decide_eq_false (by unfold aL.Hd; intro hh; omega)); exact ak (G := [R]) (aB rfl) ⟨rfl, rfl⟩ (sub (ar .nil) aw))
 ·refine rC c4 3 rfl ?_
  refine oV (j0 (r := (U5.g B 0) % 16) rfl rfl (aL.sS hv)) ?_
  refine oV (aY (aD rfl rfl) (by omega)) ?_
  refine rO c4 2 rfl ?_
  refine ag rfl ?_
  refine oV (eg (r := (U5.g B 0) / 16) rfl rfl (by decide) (aL.Gb hv.1)) ?_
  refine ag rfl ?_
  refine oV (aY (eH rfl rfl) (by omega)) ?_
  refine rO c4 3 rfl ?_
  refine ag rfl ?_
  refine oV (fX (r := (U5.g B 0) * 256) rfl rfl (by decide) (aL.w7 (n := 8) rfl (by decide) rfl (by omega) (by omega))) ?_
  refine ag rfl ?_
  refine oV (aJ rfl) ?_
  refine ag rfl ?_
  refine oV (mW (r := (U5.g B 0) * 256 + (U5.g B 1)) rfl rfl (aL.qh (u := (U5.g B 0)) (n := 8) rfl hv.1 (by omega) (by omega))) ?_
  refine ag rfl ?_
  refine oV (hG (r := ((U5.g B 0) * 256 + (U5.g B 1)) % 31) rfl rfl (by omega) (jE (by omega))) ?_
  refine ag rfl ?_
  refine oV (aY (aD rfl rfl) (by omega)) ?_
  refine rO c4 3 rfl ?_
  refine ag rfl ?_
  refine oV (j0 (r := 32 * ((U5.g B 1) / 32 % 2)) rfl rfl (aL.E8 hw)) ?_
  refine ag rfl ?_
  refine oV (aY (aD rfl rfl) (by omega)) ?_
  refine rO c4 5 rfl ?_
  (obtain rfl : t = true := ht2.trans (decide_eq_true (by unfold aL.Hd; exact ⟨h1, h2, h3, h4⟩)); exact ak (G := [R]) (aB rfl) ⟨rfl, rfl⟩ (sub (ar .nil) aw))
set_option maxHeartbeats 2000000 in
theorem Fv (p : Option Addr) (c : Nat) (B : List Int) (R : ab) (hR : ∀ w0 h, R w0 h → aR U5 p B.length B w0 h) (hl : B.length < 500000000) (hB : aj.av B) : aE Tryz.prog 103 [.slice p B.length c] [R] (aO fun v G => v = .string (strOfNums (aL.kF B)) ∧ G = [R]) := by
 refine au [(0, _)] Tryz.func103 rfl Tryz.ntmps103 rfl rfl ?_
 intro w0 F
 have hn := aL.wX B
 refine rT c4 8 rfl ?_
 refine ai (Ib p c B R hR hl hB) V.PF  rfl (ar .nil) rfl ?_
 rintro _ _ ⟨rfl, rfl⟩
 refine rO c4 6 rfl ?_
 refine oV (eg (r := aL.gb B / 2 ^ 24) rfl rfl (by decide) (aL.zY (n := 24) rfl (by decide))) ?_
 refine oV (bC V.nW Tryz.underlying5 rfl ((aj.ew _).trans (show (aL.gb B / 2 ^ 24) % 256 = aL.gb B / 16777216 from by omega))) ?_
 refine oV (aJ rfl) ?_
 refine oV (eg (r := aL.gb B / 2 ^ 16) rfl rfl (by decide) (aL.zY (n := 16) rfl (by decide))) ?_
 refine oV (bC V.nW Tryz.underlying5 rfl ((aj.ew _).trans (show (aL.gb B / 2 ^ 16) % 256 = aL.gb B / 65536 % 256 from by omega))) ?_
 refine oV (aJ rfl) ?_
 refine oV (eg (r := aL.gb B / 2 ^ 8) rfl rfl (by decide) (aL.zY (n := 8) rfl (by decide))) ?_
 refine oV (bC V.nW Tryz.underlying5 rfl ((aj.ew _).trans (show (aL.gb B / 2 ^ 8) % 256 = aL.gb B / 256 % 256 from by omega))) ?_
 refine oV (aJ rfl) ?_
 refine oV (bC V.nW Tryz.underlying5 rfl ((aj.ew _).trans (show (aL.gb B) % 256 = aL.gb B % 256 from by omega))) ?_
 refine eb (U5) (aL.kF B) V.cy V.z5 rfl rfl rfl rfl rfl rfl ?_
 intro yz
 refine oV (lZ (T := 5) Tryz.underlying22 Tryz.underlying5 Tryz.underlying9 rfl (own an)) ?_
 refine rO c4 4 rfl ?_
 exact ak (aB rfl) ⟨rfl, rfl⟩ (sub (.cons az .nil) cC)
end Go.Proofs.YtmaiakpjgomnpaaGreat
namespace Go.Proofs.YtmaiakpjgomnpaaGreat
open Go.Sl 
theorem eK : dR Tryz.prog ⟨[22], []⟩ = true := by kernel_rfl
attribute [local irreducible] aQ.nU ad.jO aQ.cY aj.av aL.fg aL.kF aL.gb
section
variable {C : Ctx} {E : Env} {L : List ab} {ty : TypeId}
theorem ko {x y : Operand} {t t' : TypeId} {s u : ByteArray} {r : Bool} (hr : (s.toList == u.toList) = r) (hx : aq E x = some (.string s)) (hy : aq E y = some (.string u)) : cA C (.binOp .neq t x y t') ty E L (.bool (!r)) L :=
 dV fun d pos aft g a w ha => by
  rw [jR d pos aft g (ha.eval hx) (ha.eval hy) (by simp [eqGuard])]
  simp [binOp, Op.stringOp, Sem.run_pure, ← hr, bne]
end
theorem Jk (p : Option Addr) (c n : Nat) (L : List Int) (R : ab) (hR : ∀ w0 h, R w0 h → aR U5 p n L w0 h) (hn : L.length = n) (hl : n < 500000000) (hB : aj.av L) (mo : Int) (hm : mo < 500000000) (x : List Int) (u e : Int) (hq : ad.jO L mo (x, u, e)) : aE Tryz.prog 119 [.slice p n c, .int .i64 mo] [R] (aO fun v G => ∃ qq cq, v = .tuple #[.slice qq x.length cq, .int .i64 u, .int .i64 e] ∧ G = [Row U5 qq x.length cq x, R]) := by
 subst hn
 exact NA p c L R hR hl hB mo hm (x, u, e) hq
set_option maxHeartbeats 4000000 in
theorem Kl (p : Option Addr) (c : Nat) (B : List Int) (R : ab) (hR : ∀ w0 h, R w0 h → aR U5 p B.length B w0 h) (hcap : B.length ≤ c) (hl : B.length < 500000000) (hB : aj.av B) (mo : Int) (hm : mo < 500000000) (q : List Int × Int) (hq : aL.nZ B mo q) : aE Tryz.prog 84 [.slice p B.length c, .int .i64 mo] [R] (aO fun v G => ∃ qq cq, v = .tuple #[.slice qq q.1.length cq, .int .i64 q.2] ∧ G = [Row U5 qq q.1.length cq q.1, R]) := by
 refine au [(0, _), (1, _)] Tryz.func84 rfl Tryz.ntmps84 rfl rfl ?_
 intro w0 F
 refine rT eK 8 rfl ?_
 rcases (hq.O2 hB hm) with ⟨hb6, rfl⟩ | ⟨hb6, hhd, rfl⟩ | ⟨x, n, e, hb6, hhd, hr, hxB, hxl, hn, hws⟩
 ·refine rC eK 4 rfl ?_
  refine oV (aY (bo rfl rfl) (by omega)) ?_
  refine rO eK 13 rfl ?_
  exact ak (fy rfl rfl) ⟨none, 0, rfl, rfl⟩ (Sl.Sub.trans (ee (A := Row U5 none 0 0 []) (fun w0 => Row.nil U5 w0 _)) (sub (bD .nil) aw))
 ·refine rC eK 4 rfl ?_
  refine oV (aA (bo rfl rfl) (by omega)) ?_
  refine rO eK 7 rfl ?_
  refine ai (AY p c B R hR (by omega) hB false (decide_eq_false hhd).symm) V.Lm  rfl (ar .nil) rfl ?_
  rintro _ _ ⟨rfl, rfl⟩
  refine rO eK 14 rfl ?_
  exact ak (fy rfl rfl) ⟨none, 0, rfl, rfl⟩ (Sl.Sub.trans (ee (A := Row U5 none 0 0 []) (fun w0 => Row.nil U5 w0 _)) (sub (bD .nil) aw))
 ·refine rC eK 4 rfl ?_
  refine oV (aA (bo rfl rfl) (by omega)) ?_
  refine rO eK 7 rfl ?_
  refine ai (AY p c B R hR (by omega) hB true (decide_eq_true hhd).symm) V.Lm  rfl (ar .nil) rfl ?_
  rintro _ _ ⟨rfl, rfl⟩
  refine rO eK 9 rfl ?_
  have hB2 := aL.ek hB 2
  have hD2 : ∀ w0 h, R w0 h → aR U5 (eh p 2 c 1) (B.length - 2) (B.drop 2) w0 h := fun w0 h hh => gS (c := U5) hR rfl 2 c (by omega) hcap w0 h hh
  refine rC eK 2 rfl ?_
  refine oV (dQ 2 _ _ V.cy rfl ⟨_, rfl⟩ ⟨rfl, rfl⟩ rfl (by omega) (by omega) (by omega)) ?_
  refine oV (aJ rfl) ?_
  refine ai (Jk (eh p 2 c 1) (c - 2) (B.length - 2) (B.drop 2) R hD2 List.length_drop (by omega) hB2 mo hm x (n : Int) e hr) V.Pb  rfl (ar .nil) rfl ?_
  rintro _ _ ⟨q22, c22, rfl, rfl⟩
  refine rO eK 10 rfl ?_
  have hBn := aL.ek hB (2 + n)
  have hDn : ∀ w0 h, R w0 h → aR U5 (eh p (2 + n) c 1) (B.length - (2 + n)) (B.drop (2 + n)) w0 h := fun w0 h hh => gS (c := U5) hR rfl (2 + n) c (by omega) hcap w0 h hh
  refine rC eK 3 rfl ?_
  refine oV (cH (v := .int .i64 ((2 + n : Nat) : Int)) (dj rfl rfl wI) (by congr 1)) ?_
  refine oV (dQ (2 + n) B.length c V.cy rfl ⟨_, rfl⟩ ⟨rfl, rfl⟩ rfl (by omega) (by omega) (by omega)) ?_
  refine rO eK 5 rfl ?_
  rcases (hws) with ⟨he, rfl⟩ | ⟨he, h4, rfl⟩ | ⟨he, h4, rfl⟩ | ⟨he, h4, hne, rfl⟩ | ⟨he, h4, heq, rfl⟩
  ·refine rC eK 3 rfl ?_
   refine oV (aY (bY rfl rfl) he) ?_
   refine rO eK 14 rfl ?_
   exact ak (fy rfl rfl) ⟨none, 0, rfl, rfl⟩ (Sl.Sub.trans (ee (A := Row U5 none 0 0 []) (fun w0 => Row.nil U5 w0 _)) (sub (ar (.cons az .nil)) cC))
  ·refine rC eK 3 rfl ?_
   refine oV (aA (bY rfl rfl) (fun h => h he)) ?_
   refine rO eK 8 rfl ?_
   refine oV (aY (bo rfl rfl) (by omega)) ?_
   refine rO eK 13 rfl ?_
   exact ak (fy rfl rfl) ⟨none, 0, rfl, rfl⟩ (Sl.Sub.trans (ee (A := Row U5 none 0 0 []) (fun w0 => Row.nil U5 w0 _)) (sub (ar (.cons az .nil)) cC))
  ·refine rC eK 3 rfl ?_
   refine oV (aA (bY rfl rfl) (fun h => h he)) ?_
   refine rO eK 8 rfl ?_
   refine oV (aA (bo rfl rfl) (by omega)) ?_
   refine rO eK 8 rfl ?_
   refine oV (aY (a8 rfl rfl) (by omega)) ?_
   refine rO eK 13 rfl ?_
   exact ak (fy rfl rfl) ⟨none, 0, rfl, rfl⟩ (Sl.Sub.trans (ee (A := Row U5 none 0 0 []) (fun w0 => Row.nil U5 w0 _)) (sub (ar (.cons az .nil)) cC))
  ·refine rC eK 3 rfl ?_
   refine oV (aA (bY rfl rfl) (fun h => h he)) ?_
   refine rO eK 8 rfl ?_
   refine oV (aA (bo rfl rfl) (by omega)) ?_
   refine rO eK 8 rfl ?_
   refine oV (aA (a8 rfl rfl) (by omega)) ?_
   refine rO eK 5 rfl ?_
   refine wN [pz 0 [] [9], pz 1 [0] [], pz 0 [] [6], pz 4 [2] [], pz 15 [1, 3] [], pz 31 [4] []] [⟨fun y => Row U5 q22 x.length c22 x, none, some 3, []⟩, ⟨fun y => R, none, none, [1]⟩, ⟨fun y => Row U5 q22 x.length c22 x, some 3, none, []⟩] F V.mixed ?_
   refine nM ?_
   refine nR (fun y FF hA => lZ (T := 5) Tryz.underlying22 Tryz.underlying5 Tryz.underlying9 rfl (by exact bE hDn an)) ?_
   refine nM ?_
   refine nE (fun y FF hA => bK (Post := [Row U5 q22 x.length c22 x]) (Fv q22 c22 x (Row U5 q22 x.length c22 x) (fun _ _ hh => hh.rd) (by omega) hxB) V.Jc rfl (ar .nil) (fun v G h => by rcases h with ⟨rfl, rfl⟩; exact ⟨rfl, .refl _⟩)) ?_
   refine nV (fun y hA L => cH (v := .bool true) (ko (th (aL.aV hBn) (aL.aV (aL.q9 x)) hne) rfl rfl) rfl) ?_
   refine nA ?_
   refine aU ?_
   intro y hA
   clear hA
   refine ba ?_
   refine bZ _ (.cons (d := 6) rfl (.cons (d := 42) rfl (.nil _))) ?_
   refine bP (M := R :: Row U5 q22 x.length c22 x :: F) (fun _ _ h => h) ?_
   refine rC eK 10 rfl ?_
   exact ak (fy rfl rfl) ⟨none, 0, rfl, rfl⟩ (Sl.Sub.trans (ee (A := Row U5 none 0 0 []) (fun w0 => Row.nil U5 w0 _)) (sub (bD .nil) cC))
  ·refine rC eK 3 rfl ?_
   refine oV (aA (bY rfl rfl) (fun h => h he)) ?_
   refine rO eK 8 rfl ?_
   refine oV (aA (bo rfl rfl) (by omega)) ?_
   refine rO eK 8 rfl ?_
   refine oV (aA (a8 rfl rfl) (by omega)) ?_
   refine rO eK 5 rfl ?_
   refine wN [pz 0 [] [9], pz 1 [0] [], pz 0 [] [6], pz 4 [2] [], pz 15 [1, 3] [], pz 31 [4] []] [⟨fun y => Row U5 q22 x.length c22 x, none, some 3, []⟩, ⟨fun y => R, none, none, [1]⟩, ⟨fun y => Row U5 q22 x.length c22 x, some 3, none, []⟩] F V.mixed ?_
   refine nM ?_
   refine nR (fun y FF hA => lZ (T := 5) Tryz.underlying22 Tryz.underlying5 Tryz.underlying9 rfl (by exact bE hDn an)) ?_
   refine nM ?_
   refine nE (fun y FF hA => bK (Post := [Row U5 q22 x.length c22 x]) (Fv q22 c22 x (Row U5 q22 x.length c22 x) (fun _ _ hh => hh.rd) (by omega) hxB) V.Jc rfl (ar .nil) (fun v G h => by rcases h with ⟨rfl, rfl⟩; exact ⟨rfl, .refl _⟩)) ?_
   refine nV (fun y hA L => cH (v := .bool false) (ko (r := true) (by rw [heq]; exact beq_self_eq_true _) rfl rfl) rfl) ?_
   refine nA ?_
   refine aU ?_
   intro y hA
   clear hA
   refine ba ?_
   refine bZ _ (.cons (d := 6) rfl (.cons (d := 42) rfl (.nil _))) ?_
   refine bP (M := R :: Row U5 q22 x.length c22 x :: F) (fun _ _ h => h) ?_
   refine rC eK 12 rfl ?_
   exact ak (fy rfl rfl) ⟨q22, c22, rfl, rfl⟩ (sub (.cons az (ar .nil)) aw)
end Go.Proofs.YtmaiakpjgomnpaaGreat
namespace Go.Proofs.YtmaiakpjgomnpaaGreat
open Go.Sl
theorem V.E3 : jP Tryz.prog 173 = some (256, 76, 1) := by kernel_rfl
theorem V.OF : aF Tryz.prog 111 = true := by kernel_rfl
theorem V.JB : aF Tryz.prog 143 = true := by kernel_rfl
theorem V.NX : aF Tryz.prog 96 = true := by kernel_rfl
theorem V.KL : cg Tryz.prog 175 0 = some 0 := by kernel_rfl
theorem V.MO : fJ Tryz.prog 175 = some [(0, 256)] := by kernel_rfl
theorem V.NO : df Tryz.prog 76 = true := by kernel_rfl
theorem V.z175 : dC Tryz.prog 175 = some (List.replicate 256 (.int .u32 0)) := by kernel_rfl
end Go.Proofs.YtmaiakpjgomnpaaGreat
namespace Go.Proofs.YtmaiakpjgomnpaaGreat
open Go.Sl 
theorem cN : dR Tryz.prog ⟨[22], [(175, 0, 0)]⟩ = true := by kernel_rfl
attribute [local irreducible] aj.av aa.gJ aa.gM aa.eB aa.ga aa.eR aa.im
set_option maxHeartbeats 1000000 in
theorem MG (x : Int) (hx : 0 ≤ x ∧ x < 4294967296) : aE Tryz.prog 111 [.int .u32 x] [] (aO fun v G => v = .int .u32 (aa.gM x) ∧ G = []) := by
 refine au [(0, _)] Tryz.func111 rfl Tryz.ntmps111 rfl rfl ?_
 intro w0 F
 refine rT cN 12 rfl ?_
 rw [show ((0 : Nat), Value.int .u32 x) = (0, .int .u32 (aa.gJ 0 x)) from by rw [aa.Fx hx.1]]
 refine dX (fun (k : Nat) => [(0, .int .u32 (aa.gJ k x)), (3, .int .i64 (k : Int))]) (fun (k : Nat) => F) (fun (k : Nat) => k ≤ 8) (fun (k : Nat) => 8 - k) (i1 (0) ?_ (ku ln) (sub .nil aw)) ?_
 ·exact Nat.zero_le _
 intro k
 rintro hk
 have hs := aa.Ca hx k
 refine rL cN 6 rfl ?_
 refine aN rfl (fun h4 => ?_) (fun h4 => ?_)
 ·refine rC cN 7 rfl ?_
  refine oV (j0 (r := (aa.gJ k x) % 2) rfl rfl (aa.uI hs)) ?_
  refine rO cN 3 rfl ?_
  refine aN rfl (fun h7 => ?_) (fun h7 => ?_)
  ·refine rC cN 2 rfl ?_
   refine oV (eg (r := (aa.gJ k x) / 2) rfl rfl (by decide) (aa.lT (n := 1) rfl (by decide) rfl)) ?_
   refine oV (oQ (r := aa.eB ((aa.gJ k x) / 2) 3988292384) rfl rfl (aa.u4 (by omega) (by decide))) ?_
   refine cS cN 8 rfl (by omega) ?_
   (rw [← aa.yN (by assumption)]; exact j1 (k + 1) ⟨by omega, by omega⟩ (ku ln) (sub .nil aw))
  ·refine rC cN 2 rfl ?_
   refine oV (eg (r := (aa.gJ k x) / 2) rfl rfl (by decide) (aa.lT (n := 1) rfl (by decide) rfl)) ?_
   refine cS cN 8 rfl (by omega) ?_
   (rw [← aa.wi (by assumption)]; exact j1 (k + 1) ⟨by omega, by omega⟩ (ku ln) (sub .nil aw))
 ·refine rC cN 6 rfl ?_
  obtain rfl : k = 8 := by omega
  rw [aa.FT]
  refine rC cN 6 rfl ?_
  exact ak (aB rfl) ⟨rfl, rfl⟩ (sub .nil aw)
set_option maxHeartbeats 4000000 in
theorem Mh  : aE Tryz.prog 78 [] [] (aO fun v G => ∃ b, v = .pointer (some ⟨b, 0, none⟩) ∧ G = [ao b 175 (CA [] .u32 aa.eR [])]) := by
 refine au [] Tryz.func78 rfl Tryz.ntmps78 rfl rfl ?_
 intro w0 F
 refine rT cN 7 rfl ?_
 refine oV (cD V.MO V.z175 rfl (cs := ints .u32 (List.replicate 256 0)) rfl) ?_
 refine eL rfl (vK _ _) rfl ?_
 intro b4
 refine rO cN 10 rfl ?_
 rw [← aa.Mb]
 refine dX (fun (i : Nat) => [(1, .pointer (some ⟨b4, 0, none⟩)), (5, .int .i64 (i : Int))]) (fun (i : Nat) => ao b4 175 (CA [] .u32 (aa.im i) []) :: F) (fun (i : Nat) => i ≤ 256) (fun (i : Nat) => 256 - i) (i1 (0) ?_ (ku ln) (sub (ar .nil) aw)) ?_
 ·exact Nat.zero_le _
 intro i
 rintro hi
 have hl := aa.wY (i := i) (by omega)
 refine rL cN 6 rfl ?_
 refine aN rfl (fun h6 => ?_) (fun h6 => ?_)
 ·refine rC cN 10 rfl ?_
  refine wN [pz 0 [] [1], pz 0 [] [2], pz 0 [] [2], pz 4 [2] [], pz 12 [3] [], pz 1 [0] [], pz 33 [5] [], pz 127 [6, 1] [], pz 255 [7, 4] []] [⟨fun y => ao b4 175 (CA [] .u32 (aa.im i) []), none, some 8, []⟩, ⟨fun y => ao b4 175 (CA [] .u32 ((aa.im i).set (((i : Int)).toNat) (aa.gM (i : Int))) []), some 8, none, []⟩] F V.mixed ?_
  iterate 3 refine nM ?_
  refine nV (fun y hA L => bC V.u3 Tryz.underlying76 rfl (aL.wrap32 (by omega) (by omega))) ?_
  refine nE (fun y FF hA => bK (Post := []) (MG (i : Int) (by omega)) V.OF rfl .nil (fun v G h => by rcases h with ⟨rfl, rfl⟩; exact ⟨rfl, .refl _⟩)) ?_
  refine nN ?_
  refine nG V.KL ?_
  refine nV (fun y hA L => il i rfl V.E3 rfl rfl (by omega)) ?_
  refine nE (fun y FF hA => du (yT (i : Int) V.NO rfl rfl (by exact cZ) (by (simp only [List.length_cons, List.length_nil]; omega)) (by omega) (by omega)) ⟨rfl, .refl _⟩) ?_
  refine aU ?_
  intro y hA
  clear hA
  show ly _ _ _ _ (ao b4 175 (CA [] .u32 ((aa.im i).set (((i : Int)).toNat) (aa.gM (i : Int))) []) :: F)
  refine ks ?_
  refine ba ?_
  refine a7 ?_
  refine oV (dj rfl rfl wI) ?_
  refine oV (aJ rfl) ?_
  refine cB ?_
  rw [show List.set (aa.im i) ((i : Int)).toNat (aa.gM (i : Int)) = aa.im (i + 1) from aa.Dx (by omega)]
  refine j1 (i + 1) ?_ (ku ln) (sub (ar .nil) aw)
  exact ⟨by omega, by omega⟩
 ·refine rC cN 6 rfl ?_
  obtain rfl : i = 256 := by omega
  rw [aa.Hr]
  refine rC cN 6 rfl ?_
  exact ak (aB rfl) ⟨_, rfl, rfl⟩ (sub (ar .nil) aw)
set_option maxHeartbeats 4000000 in
theorem CR (bt : Nat) (p : Option Addr) (c : Nat) (B : List Int) (R : ab) (hR : ∀ w0 h, R w0 h → aR U5 p B.length B w0 h) (hl : B.length < 500000000) (hB : aj.av B) (s : Int) (hs0 : 0 ≤ s ∧ s < 4294967296) : aE Tryz.prog 143 [.pointer (some ⟨bt, 0, none⟩), .int .u32 s, .slice p B.length c] [ao bt 175 (CA [] .u32 aa.eR []), R] (aO fun v G => v = .int .u32 (aa.qw s B) ∧ G = [ao bt 175 (CA [] .u32 aa.eR []), R]) := by
 refine au [(0, _), (1, _), (2, _)] Tryz.func143 rfl Tryz.ntmps143 rfl rfl ?_
 intro w0 F
 have htl := aa.Gc
 refine rT cN 9 rfl ?_
 refine oV (cH (v := .bool false) (iL Tryz.underlying131 rfl rfl) rfl) ?_
 refine rO cN 8 rfl ?_
 refine oV (ss (r := 4294967295 - s) rfl rfl (aa.vk (by omega))) ?_
 refine rO cN 12 rfl ?_
 rw [show ((1 : Nat), Value.int .u32 (4294967295 - s)) = (1, .int .u32 (aa.ga (4294967295 - s) (B.take 0))) from by rw [List.take_zero]; unfold aa.ga; rfl]
 refine dX (fun (i : Nat) => [(0, .pointer (some ⟨bt, 0, none⟩)), (1, .int .u32 (aa.ga (4294967295 - s) (B.take i))), (13, .slice p B.length c), (14, .int .i64 (B.length : Int)), (15, .int .i64 (i : Int))]) (fun (i : Nat) => ao bt 175 (CA [] .u32 aa.eR []) :: R :: F) (fun (i : Nat) => i ≤ B.length) (fun (i : Nat) => B.length - i) (i1 (0) ?_ (dp ln) (sub (bD .nil) aw)) ?_
 ·exact Nat.zero_le _
 intro i
 rintro hi
 refine rL cN 6 rfl ?_
 refine aN rfl (fun h16 => ?_) (fun h16 => ?_)
 ·refine rC cN 6 rfl ?_
  refine oV (xI V.cy (by exact bE hR bW)) ?_
  refine oV (xL V.s5 (by exact bE hR bW)) ?_
  refine rO cN 3 rfl ?_
  have hv : 0 ≤ (U5.g B (i : Int)) ∧ (U5.g B (i : Int)) < 256 := hB.get i
  have hs := aa.nS (l := B.take i) (s := (4294967295 - s)) (aa.fF hB i) (by omega)
  have hix := aa.K0 (a := (aa.ga (4294967295 - s) (B.take i)) % 256) (b := (U5.g B (i : Int))) (by omega) hv
  have hrw := aa.yZ (x := (aa.eB ((aa.ga (4294967295 - s) (B.take i)) % 256) (U5.g B (i : Int)))) (by omega)
  refine rC cN 3 rfl ?_
  refine oV (bC V.nW Tryz.underlying5 rfl (aa.ew _)) ?_
  refine oV (aJ rfl) ?_
  refine oV (oQ (r := (aa.eB ((aa.ga (4294967295 - s) (B.take i)) % 256) (U5.g B (i : Int)))) rfl rfl (aa.Oy (by omega) hv)) ?_
  refine rO cN 2 rfl ?_
  refine oV (il (((aa.eB ((aa.ga (4294967295 - s) (B.take i)) % 256) (U5.g B (i : Int)))).toNat) (by omega) V.E3 rfl rfl (by omega)) ?_
  refine oV (mR (aa.eB ((aa.ga (4294967295 - s) (B.take i)) % 256) (U5.g B (i : Int))) V.NO rfl an (by (simp only [List.length_cons, List.length_nil]; omega)) (by omega) (by omega)) ?_
  rw [aa.DY hix]
  refine oV (aJ rfl) ?_
  refine oV (eg (r := (aa.ga (4294967295 - s) (B.take i)) / 256) rfl rfl (by decide) (aa.lT (n := 8) rfl (by decide) rfl)) ?_
  refine oV (oQ (r := aa.eB (aa.gM (aa.eB ((aa.ga (4294967295 - s) (B.take i)) % 256) (U5.g B (i : Int)))) ((aa.ga (4294967295 - s) (B.take i)) / 256)) rfl rfl (aa.u4 hrw (by omega))) ?_
  refine cS cN 8 rfl (by omega) ?_
  have ht := aa.wR (l := B) (s := (4294967295 - s)) (i := i) (by omega)
  rw [show B.getD i 0 = (U5.g B (i : Int)) from rfl] at ht
  rw [aa.AG hs.1 hv] at ht
  rw [← ht]
  exact j1 (i + 1) ⟨by omega, by omega⟩ (dp ln) (sub (bD .nil) aw)
 ·refine rC cN 6 rfl ?_
  obtain rfl : i = B.length := by omega
  rw [List.take_length]
  have hs := aa.nS (l := B) (s := (4294967295 - s)) hB (by omega)
  refine rC cN 2 rfl ?_
  refine oV (ss (r := 4294967295 - (aa.ga (4294967295 - s) B)) rfl rfl (aa.vk (by omega))) ?_
  refine rO cN 4 rfl ?_
  exact ak (aB rfl) ⟨by unfold aa.qw; rfl, rfl⟩ (sub (bD .nil) aw)
set_option maxHeartbeats 4000000 in
theorem Fb (p : Option Addr) (c : Nat) (B : List Int) (R : ab) (hR : ∀ w0 h, R w0 h → aR U5 p B.length B w0 h) (hl : B.length < 500000000) (hB : aj.av B) (s : Int) (hs0 : 0 ≤ s ∧ s < 4294967296) : aE Tryz.prog 96 [.int .u32 s, .slice p B.length c] [R] (aO fun v G => v = .int .u32 (aa.qw s B) ∧ G = [R]) := by
 refine au [(0, _), (1, _)] Tryz.func96 rfl Tryz.ntmps96 rfl rfl ?_
 intro w0 F
 refine rT cN 8 rfl ?_
 refine oV (ss (r := 4294967295 - s) rfl rfl (aa.vk (by omega))) ?_
 refine rO cN 10 rfl ?_
 rw [show ((0 : Nat), Value.int .u32 (4294967295 - s)) = (0, .int .u32 (aa.ga (4294967295 - s) (B.take 0))) from by rw [List.take_zero]; unfold aa.ga; rfl]
 refine dX (fun (i : Nat) => [(0, .int .u32 (aa.ga (4294967295 - s) (B.take i))), (1, .slice p B.length c), (5, .int .i64 (i : Int))]) (fun (i : Nat) => R :: F) (fun (i : Nat) => i ≤ B.length) (fun (i : Nat) => B.length - i) (i1 (0) ?_ (jg ln) (sub (ar .nil) aw)) ?_
 ·exact Nat.zero_le _
 intro i
 rintro hi
 refine rL cN 9 rfl ?_
 refine aN rfl (fun h13 => ?_) (fun h13 => ?_)
 ·refine rC cN 5 rfl ?_
  have hv : 0 ≤ (U5.g B (i : Int)) ∧ (U5.g B (i : Int)) < 256 := hB.get i
  have hs := aa.nS (l := B.take i) (s := (4294967295 - s)) (aa.fF hB i) (by omega)
  refine rC cN 4 rfl ?_
  refine oV (xI V.cy (by exact bE hR an)) ?_
  refine oV (xL V.s5 (by exact bE hR an)) ?_
  refine oV (bC V.u5 Tryz.underlying76 rfl (aL.wrap32 (by omega) (by omega))) ?_
  refine oV (oQ (r := (aa.eB (aa.ga (4294967295 - s) (B.take i)) (U5.g B (i : Int)))) rfl rfl (aa.u4 hs (by omega))) ?_
  refine rO cN 4 rfl ?_
  have hxc := aa.Hf (a := (aa.ga (4294967295 - s) (B.take i))) (b := (U5.g B (i : Int))) hs (by omega)
  refine rC cN 5 rfl ?_
  rw [show ((0 : Nat), Value.int .u32 (aa.eB (aa.ga (4294967295 - s) (B.take i)) (U5.g B (i : Int)))) = (0, .int .u32 (aa.gJ 0 (aa.eB (aa.ga (4294967295 - s) (B.take i)) (U5.g B (i : Int))))) from by rw [aa.Fx hxc.1]]
  refine dX (fun (k : Nat) => [(0, .int .u32 (aa.gJ k (aa.eB (aa.ga (4294967295 - s) (B.take i)) (U5.g B (i : Int))))), (1, .slice p B.length c), (5, .int .i64 (i : Int)), (6, .int .i64 (k : Int))]) (fun (k : Nat) => R :: F) (fun (k : Nat) => k ≤ 8) (fun (k : Nat) => 8 - k) (i1 (0) ?_ (fZ ln) (sub (ar .nil) aw)) ?_
  ·exact Nat.zero_le _
  intro k
  rintro hk
  refine rL cN 7 rfl ?_
  refine aN rfl (fun h24 => ?_) (fun h24 => ?_)
  ·refine rC cN 5 rfl ?_
   have hk2 := aa.Ca hxc k
   refine rC cN 2 rfl ?_
   refine oV (j0 (r := (aa.gJ k (aa.eB (aa.ga (4294967295 - s) (B.take i)) (U5.g B (i : Int)))) % 2) rfl rfl (aa.uI hk2)) ?_
   refine rO cN 6 rfl ?_
   refine oV (eg (r := (aa.gJ k (aa.eB (aa.ga (4294967295 - s) (B.take i)) (U5.g B (i : Int)))) / 2) rfl rfl (by decide) (aa.lT (n := 1) rfl (by decide) rfl)) ?_
   refine rO cN 9 rfl ?_
   refine aN rfl (fun h32 => ?_) (fun h32 => ?_)
   ·refine rC cN 2 rfl ?_
    refine oV (oQ (r := aa.eB ((aa.gJ k (aa.eB (aa.ga (4294967295 - s) (B.take i)) (U5.g B (i : Int)))) / 2) 3988292384) rfl rfl (aa.u4 (by omega) (by decide))) ?_
    refine cS cN 9 rfl (by omega) ?_
    (rw [← aa.yN (by assumption)]; exact j1 (k + 1) ⟨by omega, by omega⟩ (fZ ln) (sub (ar .nil) aw))
   ·refine fL cN 8 rfl (by omega) ?_
    (rw [← aa.wi (by assumption)]; exact j1 (k + 1) ⟨by omega, by omega⟩ (fZ ln) (sub (ar .nil) aw))
  ·refine rC cN 6 rfl ?_
   obtain rfl : k = 8 := by omega
   refine fL cN 5 rfl (by omega) ?_
   have ht := aa.wR (l := B) (s := (4294967295 - s)) (i := i) (by omega)
   rw [show B.getD i 0 = (U5.g B (i : Int)) from rfl] at ht
   rw [aa.FT, ← ht]
   exact j1 (i + 1) ⟨by omega, by omega⟩ (jg ln) (sub (ar .nil) aw)
 ·refine rC cN 6 rfl ?_
  obtain rfl : i = B.length := by omega
  rw [List.take_length]
  have hs := aa.nS (l := B) (s := (4294967295 - s)) hB (by omega)
  refine rC cN 2 rfl ?_
  refine oV (ss (r := 4294967295 - (aa.ga (4294967295 - s) B)) rfl rfl (aa.vk (by omega))) ?_
  refine rO cN 4 rfl ?_
  exact ak (aB rfl) ⟨by unfold aa.qw; rfl, rfl⟩ (sub (ar .nil) aw)
set_option maxHeartbeats 2000000 in
theorem HP (bt : Nat) (kk : List Int) (hk : aj.av kk) (hkl : kk.length < 500000000) (p : Option Addr) (c : Nat) (B : List Int) (R : ab) (hR : ∀ w0 h, R w0 h → aR U5 p B.length B w0 h) (hl : B.length < 500000000) (hB : aj.av B) : aE Tryz.prog 109 [.pointer (some ⟨bt, 0, none⟩), .string (strOfNums kk), .slice p B.length c] [ao bt 175 (CA [] .u32 aa.eR []), R] (aO fun v G => v = .int .u32 (aa.ia kk B) ∧ G = [ao bt 175 (CA [] .u32 aa.eR []), R]) := by
 refine au [(0, _), (1, _), (2, _)] Tryz.func109 rfl Tryz.ntmps109 rfl rfl ?_
 intro w0 F
 have hm := aa.td (s := 0) (by decide) hk
 refine rT cN 10 rfl ?_
 refine vZ Tryz.underlying9 Tryz.underlying22 Tryz.underlying5 rfl (aa.aV hk) rfl ?_
 intro b10 c10
 refine ai (CR bt (some ⟨b10, 0, none⟩) c10 kk (aR U5 (some ⟨b10, 0, none⟩) kk.length kk) (fun _ _ hh => hh) hkl hk 0 (by decide)) V.JB  rfl (.cons az (ar .nil)) rfl ?_
 rintro _ _ ⟨rfl, rfl⟩
 refine oV (aJ rfl) ?_
 refine ai (CR bt p c B R hR hl hB (aa.qw 0 kk) hm) V.JB  rfl (ar (.cons az .nil)) rfl ?_
 rintro _ _ ⟨rfl, rfl⟩
 refine rO cN 4 rfl ?_
 exact ak (aB rfl) ⟨by unfold aa.ia; rfl, rfl⟩ (sub (bD .nil) cC)
set_option maxHeartbeats 2000000 in
theorem HZ (kk : List Int) (hk : aj.av kk) (hkl : kk.length < 500000000) (p : Option Addr) (c : Nat) (B : List Int) (R : ab) (hR : ∀ w0 h, R w0 h → aR U5 p B.length B w0 h) (hl : B.length < 500000000) (hB : aj.av B) : aE Tryz.prog 66 [.string (strOfNums kk), .slice p B.length c] [R] (aO fun v G => v = .int .u32 (aa.ia kk B) ∧ G = [R]) := by
 refine au [(0, _), (1, _)] Tryz.func66 rfl Tryz.ntmps66 rfl rfl ?_
 intro w0 F
 have hm := aa.td (s := 0) (by decide) hk
 refine rT cN 8 rfl ?_
 refine vZ Tryz.underlying9 Tryz.underlying22 Tryz.underlying5 rfl (aa.aV hk) rfl ?_
 intro b6 c6
 refine ai (Fb (some ⟨b6, 0, none⟩) c6 kk (aR U5 (some ⟨b6, 0, none⟩) kk.length kk) (fun _ _ hh => hh) hkl hk 0 (by decide)) V.NX  rfl (ar .nil) rfl ?_
 rintro _ _ ⟨rfl, rfl⟩
 refine oV (aJ rfl) ?_
 refine ai (Fb p c B R hR hl hB (aa.qw 0 kk) hm) V.NX  rfl (.cons az .nil) rfl ?_
 rintro _ _ ⟨rfl, rfl⟩
 refine rO cN 4 rfl ?_
 exact ak (aB rfl) ⟨by unfold aa.ia; rfl, rfl⟩ (sub (ar .nil) cC)
end Go.Proofs.YtmaiakpjgomnpaaGreat
namespace Go.Proofs.YtmaiakpjgomnpaaGreat
open Go.Sl
theorem V.IH : aF Tryz.prog 142 = true := by kernel_rfl
end Go.Proofs.YtmaiakpjgomnpaaGreat
namespace Go.Proofs.YtmaiakpjgomnpaaGreat
open Go.Sl 
theorem dE : dR Tryz.prog ⟨[22], []⟩ = true := by kernel_rfl
attribute [local irreducible] aj.av aa.gJ aa.gM aa.eB aa.ga aa.eR aa.im
theorem F2 {l m : List Int} {t : Bool} (hl : ∀ x ∈ l, 0 ≤ x ∧ x < 256) (hm : ∀ x ∈ m, 0 ≤ x ∧ x < 256) (ht : t = decide (l = m)) : ((strOfNums l).toList == (strOfNums m).toList) = t := by
 by_cases h : l = m
 ·rw [ht, decide_eq_true h, h]; exact beq_self_eq_true _
 ·rw [ht, decide_eq_false h]; exact th hl hm h
theorem fc {C : Ctx} {E : Env} {L : List ab} {ty : TypeId} {x y : Operand} {t t' : TypeId} {l m : List Int} {r : Bool} (hl : ∀ x ∈ l, 0 ≤ x ∧ x < 256) (hm : ∀ x ∈ m, 0 ≤ x ∧ x < 256) (hx : aq E x = some (.string (strOfNums l))) (hy : aq E y = some (.string (strOfNums m))) (ht : r = decide (l = m)) : cA C (.binOp .eql t x y t') ty E L (.bool r) L := Fw hx hy (F2 hl hm ht)
theorem vz (x : Int) (hx : 0 ≤ x ∧ x < 256) (t : Bool) (ht : t = decide (aa.kx x)) : aE Tryz.prog 142 [.int .u8 x] [] (aO fun v G => v = .bool t ∧ G = []) := by
 refine au [(0, _)] Tryz.func142 rfl Tryz.ntmps142 rfl rfl ?_
 intro w0 F
 refine rT dE 5 rfl ?_
 rcases (aa.IX x) with ⟨h1, h2⟩ | ⟨h1, h2⟩ | ⟨h1, h2, h3⟩ | ⟨h1, h2, h3⟩ | ⟨h1, h2⟩
 ·refine rC dE 3 rfl ?_
  refine oV (aY (fh rfl rfl) (by omega)) ?_
  refine rO dE 2 rfl ?_
  refine ag rfl ?_
  refine oV (aY (eH rfl rfl) (by omega)) ?_
  refine rO dE 13 rfl ?_
  (obtain rfl : t = true := ht.trans (decide_eq_true (by unfold aa.kx; omega)); exact ak (G := []) (aB rfl) ⟨rfl, rfl⟩ (sub .nil aw))
 ·refine rC dE 3 rfl ?_
  refine oV (aY (fh rfl rfl) (by omega)) ?_
  refine rO dE 2 rfl ?_
  refine ag rfl ?_
  refine oV (aA (eH rfl rfl) (by omega)) ?_
  refine rO dE 3 rfl ?_
  refine ag rfl ?_
  refine oV (aY (fh rfl rfl) (by omega)) ?_
  refine rO dE 2 rfl ?_
  refine ag rfl ?_
  refine oV (aA (eH rfl rfl) (by omega)) ?_
  refine rO dE 6 rfl ?_
  (obtain rfl : t = false := ht.trans (decide_eq_false (by unfold aa.kx; omega)); exact ak (G := []) (aB rfl) ⟨rfl, rfl⟩ (sub .nil aw))
 ·refine rC dE 3 rfl ?_
  refine oV (aA (fh rfl rfl) (by omega)) ?_
  refine rO dE 6 rfl ?_
  refine ag rfl ?_
  refine oV (aY (fh rfl rfl) (by omega)) ?_
  refine rO dE 2 rfl ?_
  refine ag rfl ?_
  refine oV (aY (eH rfl rfl) (by omega)) ?_
  refine rO dE 6 rfl ?_
  (obtain rfl : t = true := ht.trans (decide_eq_true (by unfold aa.kx; omega)); exact ak (G := []) (aB rfl) ⟨rfl, rfl⟩ (sub .nil aw))
 ·refine rC dE 3 rfl ?_
  refine oV (aA (fh rfl rfl) (by omega)) ?_
  refine rO dE 6 rfl ?_
  refine ag rfl ?_
  refine oV (aY (fh rfl rfl) (by omega)) ?_
  refine rO dE 2 rfl ?_
  refine ag rfl ?_
  refine oV (aA (eH rfl rfl) (by omega)) ?_
  refine rO dE 6 rfl ?_
  (obtain rfl : t = false := ht.trans (decide_eq_false (by unfold aa.kx; omega)); exact ak (G := []) (aB rfl) ⟨rfl, rfl⟩ (sub .nil aw))
 ·refine rC dE 3 rfl ?_
  refine oV (aA (fh rfl rfl) (by omega)) ?_
  refine rO dE 6 rfl ?_
  refine ag rfl ?_
  refine oV (aA (fh rfl rfl) (by omega)) ?_
  refine rO dE 9 rfl ?_
  (obtain rfl : t = false := ht.trans (decide_eq_false (by unfold aa.kx; omega)); exact ak (G := []) (aB rfl) ⟨rfl, rfl⟩ (sub .nil aw))
set_option maxHeartbeats 1000000 in
theorem kp (kk : List Int) (hk : aj.av kk) (hkl : kk.length < 500000000) (t : Bool) (ht : t = decide (aa.ej kk)) : aE Tryz.prog 107 [.string (strOfNums kk)] [] (aO fun v G => v = .bool t ∧ G = []) := by
 refine au [(0, _)] Tryz.func107 rfl Tryz.ntmps107 rfl rfl ?_
 intro w0 F
 refine rT dE 9 rfl ?_
 refine oV (sK Tryz.underlying9 rfl (iY kk)) ?_
 refine rO dE 4 rfl ?_
 refine dX (fun (i : Nat) => [(0, .string (strOfNums kk)), (5, .int .i64 (kk.length : Int)), (6, .int .i64 (i : Int))]) (fun (i : Nat) => F) (fun (i : Nat) => i ≤ kk.length ∧ ∀ j, j < i → aa.kx (kk.getD j 0)) (fun (i : Nat) => kk.length - i) (i1 (0) ?_ (jg ln) (sub .nil aw)) ?_
 ·exact ⟨Nat.zero_le _, fun j hj => by omega⟩
 intro i
 rintro ⟨hi, hall⟩
 refine rL dE 6 rfl ?_
 refine aN rfl (fun h7 => ?_) (fun h7 => ?_)
 ·refine rC dE 10 rfl ?_
  rcases (Classical.em (aa.kx (kk.getD i 0))) with hl1 | hl1
  ·refine rC dE 4 rfl ?_
   refine oV (qU i Tryz.underlying9 rfl rfl (aa.aV hk) rfl (by omega)) ?_
   refine ai (vz (kk.getD i 0) (hk.get i) true (decide_eq_true hl1).symm) V.IH  rfl .nil rfl ?_
   rintro _ _ ⟨rfl, rfl⟩
   refine cS dE 11 rfl (by omega) ?_
   refine j1 (i + 1) ?_ (jg ln) (sub .nil aw)
   exact ⟨⟨by omega, fun j hj => (Nat.lt_succ_iff_lt_or_eq.1 hj).elim (hall j) (fun e => e ▸ hl1)⟩, by omega⟩
  ·refine rC dE 4 rfl ?_
   refine oV (qU i Tryz.underlying9 rfl rfl (aa.aV hk) rfl (by omega)) ?_
   refine ai (vz (kk.getD i 0) (hk.get i) false (decide_eq_false hl1).symm) V.IH  rfl .nil rfl ?_
   rintro _ _ ⟨rfl, rfl⟩
   refine rO dE 15 rfl ?_
   obtain rfl : t = false := ht.trans (decide_eq_false (aa.uc hl1 (by omega)))
   exact ak (aB rfl) ⟨rfl, rfl⟩ (sub .nil aw)
 ·refine rC dE 8 rfl ?_
  refine oV (sK Tryz.underlying9 rfl (iY kk)) ?_
  refine rO dE 5 rfl ?_
  obtain rfl : i = kk.length := by omega
  rw [aa.Nx ht hall]
  exact ak (aB rfl) ⟨rfl, rfl⟩ (sub .nil aw)
set_option maxHeartbeats 1000000 in
theorem lM (p : Option Addr) (c : Nat) (B : List Int) (R : ab) (hR : ∀ w0 h, R w0 h → aR U5 p B.length B w0 h) (hB : aj.av B) (h4 : 4 ≤ B.length) (hcap : B.length ≤ c) : aE Tryz.prog 112 [.slice p B.length c] [R] (aO fun v G => v = .int .i64 (aL.dU B) ∧ G = [R]) := by
 refine au [(0, _)] Tryz.func112 rfl Tryz.ntmps112 rfl rfl ?_
 intro w0 F
 have hT : ∀ w0 h, R w0 h → aR U5 p 4 (B.take 4) w0 h := lL (cap := 0) hR 4 h4
 refine rT dE 14 rfl ?_
 refine oV (j8 4 c V.cy rfl ⟨_, rfl⟩ rfl (by omega) (by omega)) ?_
 refine rO dE 5 rfl ?_
 refine dX (fun (i : Nat) => [(3, .int .i64 (aa.ac B i)), (7, .slice p 4 c), (8, .int .i64 4), (9, .int .i64 (i : Int))]) (fun (i : Nat) => R :: F) (fun (i : Nat) => i ≤ 4) (fun (i : Nat) => 4 - i) (i1 (0) ?_ (fZ ln) (sub (ar .nil) aw)) ?_
 ·exact Nat.zero_le _
 intro i
 rintro hi
 refine rL dE 6 rfl ?_
 refine aN rfl (fun h10 => ?_) (fun h10 => ?_)
 ·refine rC dE 5 rfl ?_
  have hv := hB.get i
  have ha := aa.MR hB (i := i) (by omega)
  refine a7 ?_
  refine oV (xI V.cy (by exact bE hT an)) ?_
  refine oV (xL V.s5 (by exact bE hT an)) ?_
  rw [show U5.g (B.take 4) (i : Int) = (B.getD i 0) from aa.A8 (by omega)]
  refine rO dE 5 rfl ?_
  refine oV (fX (r := (aa.ac B i) * 256) rfl rfl (by decide) (aL.w7 (n := 8) rfl (by decide) rfl (by omega) (by omega))) ?_
  refine oV (aJ rfl) ?_
  refine oV (bC V.u5 Tryz.underlying3 rfl wI) ?_
  refine oV (mW (r := (aa.ac B i) * 256 + (B.getD i 0)) rfl rfl (aL.qh (u := (aa.ac B i)) (n := 8) rfl ha.1 (by omega) (by omega))) ?_
  refine cS dE 8 rfl (by omega) ?_
  refine j1 (i + 1) ?_ (fZ ln) (sub (ar .nil) aw)
  exact ⟨by omega, by omega⟩
 ·refine rC dE 6 rfl ?_
  obtain rfl : i = 4 := by omega
  rw [aa.Py]
  refine rC dE 6 rfl ?_
  exact ak (aB rfl) ⟨rfl, rfl⟩ (sub (ar .nil) aw)
theorem KN  : aE Tryz.prog 76 [] [] (aO fun v G => ∃ b, v = .slice (some ⟨b, 0, none⟩) 8 8 ∧ G = [Row U5 (some ⟨b, 0, none⟩) 8 8 aa.fx]) := by
 refine au [] Tryz.func76 rfl Tryz.ntmps76 rfl rfl ?_
 intro w0 F
 refine rT dE 7 rfl ?_
 refine eb (U5) aa.fx V.cy V.z5 rfl rfl rfl rfl rfl rfl ?_
 intro b1
 refine rO dE 4 rfl ?_
 exact ak (aB rfl) ⟨b1, rfl, rfl⟩ (sub (ar .nil) aw)
set_option maxHeartbeats 1000000 in
theorem GA (p : Option Addr) (c : Nat) (B : List Int) (R : ab) (hR : ∀ w0 h, R w0 h → aR U5 p B.length B w0 h) (hB : aj.av B) (p2 : Option Addr) (c2 : Nat) (D : List Int) (R2 : ab) (hR2 : ∀ w0 h, R2 w0 h → aR U5 p2 D.length D w0 h) (hD : aj.av D) (t : Bool) (ht : t = decide (B = D)) : aE Tryz.prog 110 [.slice p B.length c, .slice p2 D.length c2] [R, R2] (aO fun v G => v = .bool t ∧ G = [R, R2]) := by
 refine au [(0, _), (1, _)] Tryz.func110 rfl Tryz.ntmps110 rfl rfl ?_
 intro w0 F
 refine rT dE 8 rfl ?_
 refine oV (lZ (T := 5) Tryz.underlying22 Tryz.underlying5 Tryz.underlying9 rfl (by exact bE hR an)) ?_
 refine oV (aJ rfl) ?_
 refine oV (lZ (T := 5) Tryz.underlying22 Tryz.underlying5 Tryz.underlying9 rfl (by exact bE hR2 bW)) ?_
 refine oV (Fw rfl rfl (F2 (aa.aV hB) (aa.aV hD) ht)) ?_
 refine rO dE 4 rfl ?_
 exact ak (aB rfl) ⟨rfl, rfl⟩ (sub (bD .nil) aw)
end Go.Proofs.YtmaiakpjgomnpaaGreat
namespace Go.Proofs.YtmaiakpjgomnpaaGreat
open Go.Sl
theorem V.jN : hH Tryz.prog 88 = some 2 := by kernel_rfl
theorem V.oE : aF Tryz.prog 107 = true := by kernel_rfl
theorem V.KE : aF Tryz.prog 109 = true := by kernel_rfl
theorem V.O5 : aF Tryz.prog 110 = true := by kernel_rfl
theorem V.rv : aF Tryz.prog 112 = true := by kernel_rfl
theorem V.ue : fJ Tryz.prog 88 = some [(0, 1), (1, 1)] := by kernel_rfl
theorem V.ld : dC Tryz.prog 88 = some ([.string .empty, .slice none 0 0]) := by kernel_rfl
end Go.Proofs.YtmaiakpjgomnpaaGreat
namespace Go.Proofs.YtmaiakpjgomnpaaGreat
open Go.Sl 
theorem cL : dR Tryz.prog ⟨[22], []⟩ = true := by kernel_rfl
attribute [local irreducible] aj.av aa.gJ aa.gM aa.eB aa.ga aa.eR aa.im aa.ia aa.first
section
variable {C : Ctx} {E : Env} {L : List ab} {ty : TypeId}
theorem oT {t u u2 T n b T' : Nat} {cs : List Value} {v2 v3 : Value} (hs : hH C.P T = some n) (h1 : E.get t = some (.pointer (some ⟨b, 0, none⟩))) (hm : ao b T' cs ∈ L) (hn : cs.length = n) (h2 : E.get u = some v2) (h3 : E.get u2 = some v3) : lg C #[.cell t T, .tmp u, .tmp u2] E L (.tuple #[.agg cs.toArray, v2, v3]) := fun fn a w hr ha hi => by
 obtain ⟨g1, g2⟩ := lQ hs w
 obtain ⟨F, hF⟩ := hi.mem hm
 have := run_loadCells_list (P := C.P) w ⟨b, 0, none⟩ cs (fun j v hj => by rw [Addr.fV, hF.je, ← hj]; simp)
 rw [hn] at this
 simp [results, hr, ha.get _ _ h1, ha.get _ _ h2, ha.get _ _ h3, asAddr, loadVar, g1, g2, this]
end
theorem uZ (p : Option Addr) (c n : Nat) (L : List Int) (R : ab) (hR : ∀ w0 h, R w0 h → aR U5 p n L w0 h) (hn : L.length = n) (hB : aj.av L) (h4 : 4 ≤ n) (hcap : n ≤ c) : aE Tryz.prog 112 [.slice p n c] [R] (aO fun v G => v = .int .i64 (aL.dU L) ∧ G = [R]) := by
 subst hn; exact lM p c L R hR hB h4 hcap
theorem CY (p : Option Addr) (c n : Nat) (L : List Int) (R : ab) (hR : ∀ w0 h, R w0 h → aR U5 p n L w0 h) (hn : L.length = n) (hB : aj.av L) (p2 : Option Addr) (c2 n2 : Nat) (D : List Int) (R2 : ab) (hR2 : ∀ w0 h, R2 w0 h → aR U5 p2 n2 D w0 h) (hn2 : D.length = n2) (hD : aj.av D) (t : Bool) (ht : t = decide (L = D)) : aE Tryz.prog 110 [.slice p n c, .slice p2 n2 c2] [R, R2] (aO fun v G => v = .bool t ∧ G = [R, R2]) := by
 subst hn; subst hn2; exact GA p c L R hR hB p2 c2 D R2 hR2 hD t ht
theorem vP (bt : Nat) (kk : List Int) (hk : aj.av kk) (hkl : kk.length < 500000000) (p : Option Addr) (c n : Nat) (L : List Int) (R : ab) (hR : ∀ w0 h, R w0 h → aR U5 p n L w0 h) (hn : L.length = n) (hl : n < 500000000) (hB : aj.av L) : aE Tryz.prog 109 [.pointer (some ⟨bt, 0, none⟩), .string (strOfNums kk), .slice p n c] [ao bt 175 (CA [] .u32 aa.eR []), R] (aO fun v G => v = .int .u32 (aa.ia kk L) ∧ G = [ao bt 175 (CA [] .u32 aa.eR []), R]) := by
 subst hn; exact HP bt kk hk hkl p c L R hR hl hB
theorem Ee (kk : List Int) (hk : aj.av kk) (hkl : kk.length < 500000000) (p : Option Addr) (c n : Nat) (L : List Int) (R : ab) (hR : ∀ w0 h, R w0 h → aR U5 p n L w0 h) (hn : L.length = n) (hl : n < 500000000) (hB : aj.av L) : aE Tryz.prog 66 [.string (strOfNums kk), .slice p n c] [R] (aO fun v G => v = .int .u32 (aa.ia kk L) ∧ G = [R]) := by
 subst hn; exact HZ kk hk hkl p c L R hR hl hB
theorem ED (p : Option Addr) (c n : Nat) (L : List Int) (R : ab) (hR : ∀ w0 h, R w0 h → aR U5 p n L w0 h) (hn : L.length = n) (hl : n < 500000000) : aE Tryz.prog 91 [.slice p n c] [R] (aO fun v G => ∃ q cq, v = .slice q n cq ∧ G = [Row U5 q n cq L, R]) := by
 subst hn; exact oo p c L R hR hl
set_option maxHeartbeats 1000000 in
theorem C6 (p : Option Addr) (c : Nat) (B : List Int) (R : ab) (hR : ∀ w0 h, R w0 h → aR U5 p B.length B w0 h) (hB : aj.av B) (hcap : B.length ≤ c) (p2 : Option Addr) (c2 : Nat) (D : List Int) (R2 : ab) (hR2 : ∀ w0 h, R2 w0 h → aR U5 p2 D.length D w0 h) (hD : aj.av D) (hlen : D.length ≤ B.length) (t : Bool) (ht : t = decide (B.take D.length = D)) : aE Tryz.prog 77 [.slice p B.length c, .slice p2 D.length c2] [R, R2] (aO fun v G => v = .bool t ∧ G = [R, R2]) := by
 refine au [(0, _), (1, _)] Tryz.func77 rfl Tryz.ntmps77 rfl rfl ?_
 intro w0 F
 refine rT cL 11 rfl ?_
 refine oV (aY (fh rfl rfl) (by omega)) ?_
 refine rO cL 4 rfl ?_
 refine ag rfl ?_
 refine oV (j8 D.length _ V.cy rfl ⟨_, rfl⟩ rfl (by omega) (by omega)) ?_
 refine ag rfl ?_
 refine oV (aJ rfl) ?_
 refine ag rfl ?_
 refine ai (CY p c D.length (B.take D.length) R (lL (cap := 0) hR D.length hlen) (by rw [List.length_take]; omega) (aa.fF hB _) p2 c2 D.length D R2 hR2 rfl hD t ht) V.O5  rfl (bD .nil) rfl ?_
 rintro _ _ ⟨rfl, rfl⟩
 refine rO cL 5 rfl ?_
 exact ak (aB rfl) ⟨rfl, rfl⟩ (sub (bD .nil) aw)
set_option maxHeartbeats 4000000 in
theorem yo (bt : Nat) (p : Option Addr) (c : Nat) (B : List Int) (R : ab) (hR : ∀ w0 h, R w0 h → aR U5 p B.length B w0 h) (hl : B.length < 500000000) (hB : aj.av B) (hcap : B.length ≤ c) : aE Tryz.prog 79 [.slice p B.length c, .pointer (some ⟨bt, 0, none⟩)] [ao bt 175 (CA [] .u32 aa.eR []), R] (aO fun v G => (∃ e, aa.first B = .error e ∧ v = .tuple #[.agg #[.string ByteArray.empty, .slice none 0 0], .int .i64 0, .int .i64 e] ∧ G = [ao bt 175 (CA [] .u32 aa.eR []), R]) ∨ (∃ x q cq, aa.first B = .ok x ∧ v = .tuple #[.agg #[.string (strOfNums x.k), .slice q x.d.length cq], .int .i64 ((12 + x.d.length : Nat) : Int), .int .i64 0] ∧ G = [Row U5 q x.d.length cq x.d, ao bt 175 (CA [] .u32 aa.eR []), R])) := by
 refine au [(0, _), (1, _)] Tryz.func79 rfl Tryz.ntmps79 rfl rfl ?_
 intro w0 F
 refine rT cL 2 rfl ?_
 refine cn V.ld rfl ?_
 intro b4
 refine rO cL 4 rfl ?_
 rcases (aa.xn hB) with ⟨h12, hf⟩ | ⟨n, h12, hn, hnb, hbig, hf⟩ | ⟨n, h12, hn, hnb, hnm, hf⟩ | ⟨n, h12, hn, hnb, hnm, hlt, hf⟩ | ⟨n, h12, hn, hnb, hnm, hge, hsum, hf⟩ | ⟨n, h12, hn, hnb, hnm, hge, hsum, hf⟩
 ·refine rC cL 5 rfl ?_
  refine oV (aY (bo rfl rfl) (by omega)) ?_
  refine rO cL 5 rfl ?_
  refine oV (cD V.ue V.ld rfl (cs := [.string ByteArray.empty, .slice none 0 0]) rfl) ?_
  refine aT (aH V.jN rfl rfl (us := [_, _]) rfl rfl (by exact cZ) (by exact Nat.le_of_ble_eq_true rfl) rfl) ?_
  refine rO cL 6 rfl ?_
  exact ak (oT V.jN rfl an rfl rfl rfl) (.inl ⟨2, hf, rfl, rfl⟩) (sub (.cons az (.cons az .nil)) cC)
 ·refine rC cL 5 rfl ?_
  refine oV (aA (bo rfl rfl) (by omega)) ?_
  refine rO cL 6 rfl ?_
  have hS : ∀ w0 h, R w0 h → aR U5 (eh p 4 c 1) (8 - 4) ((B.drop 4).take 4) w0 h := fun w0 h hh => (hR w0 h hh).sub 4 8 c (by decide) (by omega) (by omega)
  refine wN [pz 0 [] [0], pz 1 [0] [], pz 0 [] [0], pz 4 [2] [], pz 12 [3] [], pz 3 [1] [], pz 63 [4] []] [⟨fun y => ao b4 88 [.string ByteArray.empty, .slice none 0 0], none, none, []⟩, ⟨fun y => ao bt 175 (CA [] .u32 aa.eR []), none, none, []⟩, ⟨fun y => R, none, none, [1, 4]⟩] F V.mixed ?_
  refine nM ?_
  refine nE (fun y FF hA => bK (Post := [R]) (lM p c B R hR hB (by omega) hcap) V.rv rfl (ar .nil) (fun v G h => by rcases h with ⟨rfl, rfl⟩; exact ⟨rfl, .refl _⟩)) ?_
  refine nM ?_
  refine nV (fun y hA L => dQ 4 8 _ V.cy rfl ⟨_, rfl⟩ ⟨_, rfl⟩ rfl (by omega) (by omega) (by omega)) ?_
  refine nR (fun y FF hA => lZ (T := 5) Tryz.underlying22 Tryz.underlying5 Tryz.underlying9 rfl (by exact bE hS an)) ?_
  iterate 2 refine nA ?_
  refine aU ?_
  intro y hA
  clear hA
  refine ba ?_
  refine bZ _ (.cons (d := 0) rfl (.cons (d := 1) rfl (.cons (d := 4) rfl (.cons (d := 7) rfl (.cons (d := 8) rfl (.nil _)))))) ?_
  refine bP (M := ao b4 88 [.string ByteArray.empty, .slice none 0 0] :: ao bt 175 (CA [] .u32 aa.eR []) :: R :: F) (fun _ _ h => h) ?_
  refine rC cL 3 rfl ?_
  rw [hn]
  refine rC cL 2 rfl ?_
  refine oV (aY (a8 rfl rfl) (by omega)) ?_
  refine rO cL 11 rfl ?_
  refine oV (cD V.ue V.ld rfl (cs := [.string ByteArray.empty, .slice none 0 0]) rfl) ?_
  refine aT (aH V.jN rfl rfl (us := [_, _]) rfl rfl (by exact cZ) (by exact Nat.le_of_ble_eq_true rfl) rfl) ?_
  refine rO cL 7 rfl ?_
  exact ak (oT V.jN rfl an rfl rfl rfl) (.inl ⟨4, hf, rfl, rfl⟩) (sub (.cons az (.cons az .nil)) cC)
 ·refine rC cL 5 rfl ?_
  refine oV (aA (bo rfl rfl) (by omega)) ?_
  refine rO cL 6 rfl ?_
  have hS : ∀ w0 h, R w0 h → aR U5 (eh p 4 c 1) (8 - 4) ((B.drop 4).take 4) w0 h := fun w0 h hh => (hR w0 h hh).sub 4 8 c (by decide) (by omega) (by omega)
  refine wN [pz 0 [] [0], pz 1 [0] [], pz 0 [] [0], pz 4 [2] [], pz 12 [3] [], pz 3 [1] [], pz 63 [4] []] [⟨fun y => ao b4 88 [.string ByteArray.empty, .slice none 0 0], none, none, []⟩, ⟨fun y => ao bt 175 (CA [] .u32 aa.eR []), none, none, []⟩, ⟨fun y => R, none, none, [1, 4]⟩] F V.mixed ?_
  refine nM ?_
  refine nE (fun y FF hA => bK (Post := [R]) (lM p c B R hR hB (by omega) hcap) V.rv rfl (ar .nil) (fun v G h => by rcases h with ⟨rfl, rfl⟩; exact ⟨rfl, .refl _⟩)) ?_
  refine nM ?_
  refine nV (fun y hA L => dQ 4 8 _ V.cy rfl ⟨_, rfl⟩ ⟨_, rfl⟩ rfl (by omega) (by omega) (by omega)) ?_
  refine nR (fun y FF hA => lZ (T := 5) Tryz.underlying22 Tryz.underlying5 Tryz.underlying9 rfl (by exact bE hS an)) ?_
  iterate 2 refine nA ?_
  refine aU ?_
  intro y hA
  clear hA
  refine ba ?_
  refine bZ _ (.cons (d := 0) rfl (.cons (d := 1) rfl (.cons (d := 4) rfl (.cons (d := 7) rfl (.cons (d := 8) rfl (.nil _)))))) ?_
  refine bP (M := ao b4 88 [.string ByteArray.empty, .slice none 0 0] :: ao bt 175 (CA [] .u32 aa.eR []) :: R :: F) (fun _ _ h => h) ?_
  refine rC cL 3 rfl ?_
  rw [hn]
  refine rC cL 2 rfl ?_
  refine oV (aA (a8 rfl rfl) (by omega)) ?_
  refine rO cL 2 rfl ?_
  refine ag rfl ?_
  refine ai (kp ((B.drop 4).take 4) (aa.fF (aa.ek hB 4) 4) (by rw [aa.iy (by omega)]; decide) false (decide_eq_false hnm).symm) V.oE  rfl .nil rfl ?_
  rintro _ _ ⟨rfl, rfl⟩
  refine rO cL 8 rfl ?_
  refine oV (cD V.ue V.ld rfl (cs := [.string ByteArray.empty, .slice none 0 0]) rfl) ?_
  refine aT (aH V.jN rfl rfl (us := [_, _]) rfl rfl (by exact cZ) (by exact Nat.le_of_ble_eq_true rfl) rfl) ?_
  refine rO cL 7 rfl ?_
  exact ak (oT V.jN rfl an rfl rfl rfl) (.inl ⟨4, hf, rfl, rfl⟩) (sub (.cons az (.cons az .nil)) cC)
 ·refine rC cL 5 rfl ?_
  refine oV (aA (bo rfl rfl) (by omega)) ?_
  refine rO cL 6 rfl ?_
  have hS : ∀ w0 h, R w0 h → aR U5 (eh p 4 c 1) (8 - 4) ((B.drop 4).take 4) w0 h := fun w0 h hh => (hR w0 h hh).sub 4 8 c (by decide) (by omega) (by omega)
  refine wN [pz 0 [] [0], pz 1 [0] [], pz 0 [] [0], pz 4 [2] [], pz 12 [3] [], pz 3 [1] [], pz 63 [4] []] [⟨fun y => ao b4 88 [.string ByteArray.empty, .slice none 0 0], none, none, []⟩, ⟨fun y => ao bt 175 (CA [] .u32 aa.eR []), none, none, []⟩, ⟨fun y => R, none, none, [1, 4]⟩] F V.mixed ?_
  refine nM ?_
  refine nE (fun y FF hA => bK (Post := [R]) (lM p c B R hR hB (by omega) hcap) V.rv rfl (ar .nil) (fun v G h => by rcases h with ⟨rfl, rfl⟩; exact ⟨rfl, .refl _⟩)) ?_
  refine nM ?_
  refine nV (fun y hA L => dQ 4 8 _ V.cy rfl ⟨_, rfl⟩ ⟨_, rfl⟩ rfl (by omega) (by omega) (by omega)) ?_
  refine nR (fun y FF hA => lZ (T := 5) Tryz.underlying22 Tryz.underlying5 Tryz.underlying9 rfl (by exact bE hS an)) ?_
  iterate 2 refine nA ?_
  refine aU ?_
  intro y hA
  clear hA
  refine ba ?_
  refine bZ _ (.cons (d := 0) rfl (.cons (d := 1) rfl (.cons (d := 4) rfl (.cons (d := 7) rfl (.cons (d := 8) rfl (.nil _)))))) ?_
  refine bP (M := ao b4 88 [.string ByteArray.empty, .slice none 0 0] :: ao bt 175 (CA [] .u32 aa.eR []) :: R :: F) (fun _ _ h => h) ?_
  refine rC cL 3 rfl ?_
  rw [hn]
  refine rC cL 2 rfl ?_
  refine oV (aA (a8 rfl rfl) (by omega)) ?_
  refine rO cL 2 rfl ?_
  refine ag rfl ?_
  refine ai (kp ((B.drop 4).take 4) (aa.fF (aa.ek hB 4) 4) (by rw [aa.iy (by omega)]; decide) true (decide_eq_true hnm).symm) V.oE  rfl .nil rfl ?_
  rintro _ _ ⟨rfl, rfl⟩
  refine cS cL 12 rfl (by omega) ?_
  refine oV (aY (a8 rfl rfl) (by omega)) ?_
  refine rO cL 6 rfl ?_
  refine oV (cD V.ue V.ld rfl (cs := [.string ByteArray.empty, .slice none 0 0]) rfl) ?_
  refine aT (aH V.jN rfl rfl (us := [_, _]) rfl rfl (by exact cZ) (by exact Nat.le_of_ble_eq_true rfl) rfl) ?_
  refine rO cL 7 rfl ?_
  exact ak (oT V.jN rfl an rfl rfl rfl) (.inl ⟨2, hf, rfl, rfl⟩) (sub (.cons az (.cons az .nil)) cC)
 ·refine rC cL 5 rfl ?_
  refine oV (aA (bo rfl rfl) (by omega)) ?_
  refine rO cL 6 rfl ?_
  have hS : ∀ w0 h, R w0 h → aR U5 (eh p 4 c 1) (8 - 4) ((B.drop 4).take 4) w0 h := fun w0 h hh => (hR w0 h hh).sub 4 8 c (by decide) (by omega) (by omega)
  refine wN [pz 0 [] [0], pz 1 [0] [], pz 0 [] [0], pz 4 [2] [], pz 12 [3] [], pz 3 [1] [], pz 63 [4] []] [⟨fun y => ao b4 88 [.string ByteArray.empty, .slice none 0 0], none, none, []⟩, ⟨fun y => ao bt 175 (CA [] .u32 aa.eR []), none, none, []⟩, ⟨fun y => R, none, none, [1, 4]⟩] F V.mixed ?_
  refine nM ?_
  refine nE (fun y FF hA => bK (Post := [R]) (lM p c B R hR hB (by omega) hcap) V.rv rfl (ar .nil) (fun v G h => by rcases h with ⟨rfl, rfl⟩; exact ⟨rfl, .refl _⟩)) ?_
  refine nM ?_
  refine nV (fun y hA L => dQ 4 8 _ V.cy rfl ⟨_, rfl⟩ ⟨_, rfl⟩ rfl (by omega) (by omega) (by omega)) ?_
  refine nR (fun y FF hA => lZ (T := 5) Tryz.underlying22 Tryz.underlying5 Tryz.underlying9 rfl (by exact bE hS an)) ?_
  iterate 2 refine nA ?_
  refine aU ?_
  intro y hA
  clear hA
  refine ba ?_
  refine bZ _ (.cons (d := 0) rfl (.cons (d := 1) rfl (.cons (d := 4) rfl (.cons (d := 7) rfl (.cons (d := 8) rfl (.nil _)))))) ?_
  refine bP (M := ao b4 88 [.string ByteArray.empty, .slice none 0 0] :: ao bt 175 (CA [] .u32 aa.eR []) :: R :: F) (fun _ _ h => h) ?_
  refine rC cL 3 rfl ?_
  rw [hn]
  refine rC cL 2 rfl ?_
  refine oV (aA (a8 rfl rfl) (by omega)) ?_
  refine rO cL 2 rfl ?_
  refine ag rfl ?_
  refine ai (kp ((B.drop 4).take 4) (aa.fF (aa.ek hB 4) 4) (by rw [aa.iy (by omega)]; decide) true (decide_eq_true hnm).symm) V.oE  rfl .nil rfl ?_
  rintro _ _ ⟨rfl, rfl⟩
  refine cS cL 12 rfl (by omega) ?_
  refine oV (aA (a8 rfl rfl) (by omega)) ?_
  refine rO cL 8 rfl ?_
  have hk4 := aa.fF (aa.ek hB 4) 4
  have xP := aa.fF (aa.ek hB 8) n
  have hb8 := aa.ek hB (8 + n)
  have hn4 := aa.ui hb8
  have hX8 : ∀ w0 h, R w0 h → aR U5 (eh p 8 c 1) (8 + n - 8) ((B.drop 8).take n) w0 h := fun w0 h hh => by have h1 := (hR w0 h hh).sub 8 (8 + n) c (by omega) (by omega) (by omega); rwa [Nat.add_sub_cancel_left] at h1 ⊢
  have hXn : ∀ w0 h, R w0 h → aR U5 (eh p (8 + n) c 1) (B.length - (8 + n)) (B.drop (8 + n)) w0 h := fun w0 h hh => gS (c := U5) hR rfl (8 + n) c (by omega) hcap w0 h hh
  refine rC cL 3 rfl ?_
  refine oV (cH (v := .int .i64 ((8 + n : Nat) : Int)) (dj rfl rfl wI) (by congr 1)) ?_
  refine oV (dQ 8 (8 + n) c V.cy rfl ⟨_, rfl⟩ ⟨_, rfl⟩ rfl (by omega) (by omega) (by omega)) ?_
  refine rO cL 8 rfl ?_
  refine oV (cH (v := .int .i64 ((8 + n : Nat) : Int)) (dj rfl rfl wI) (by congr 1)) ?_
  refine oV (dQ (8 + n) B.length c V.cy rfl ⟨_, rfl⟩ ⟨rfl, rfl⟩ rfl (by omega) (by omega) (by omega)) ?_
  refine ai (uZ (eh p (8 + n) c 1) (c - (8 + n)) (B.length - (8 + n)) (B.drop (8 + n)) R hXn List.length_drop hb8 (by omega) (by omega)) V.rv  rfl (.cons bX .nil) rfl ?_
  rintro _ _ ⟨rfl, rfl⟩
  refine oV (bC V.u3 Tryz.underlying76 rfl (aL.wrap32 hn4.1 hn4.2)) ?_
  refine rO cL 3 rfl ?_
  refine ai (vP bt ((B.drop 4).take 4) hk4 (by rw [aa.iy (by omega)]; decide) (eh p 8 c 1) (c - 8) (8 + n - 8) ((B.drop 8).take n) R hX8 (by rw [aa.iy (by omega)]; omega) (by omega) xP) V.KE  rfl (.cons bX (ar .nil)) rfl ?_
  rintro _ _ ⟨rfl, rfl⟩
  refine oV (aA (bY rfl rfl) (fun h => h hsum)) ?_
  refine rO cL 9 rfl ?_
  refine ai (ED (eh p 8 c 1) (c - 8) (8 + n - 8) ((B.drop 8).take n) R hX8 (by rw [aa.iy (by omega)]; omega) (by omega)) V.yg  rfl (.cons az .nil) rfl ?_
  rintro _ _ ⟨q53, c53, rfl, rfl⟩
  refine oV (cD V.ue V.ld rfl (cs := [.string (strOfNums ((B.drop 4).take 4)), .slice q53 (8 + n - 8) c53]) rfl) ?_
  refine oV (aJ rfl) ?_
  refine oV (cH (v := .int .i64 ((12 + n : Nat) : Int)) (dj rfl rfl wI) (by congr 1)) ?_
  refine aT (aH V.jN rfl rfl (us := [_, _]) rfl rfl (by exact yS) (by exact Nat.le_of_ble_eq_true rfl) rfl) ?_
  refine rO cL 5 rfl ?_
  have hdl := aa.iy (l := B) (i := 8) (n := n) (by omega)
  have e8 : 8 + n - 8 = ((B.drop 8).take n).length := by rw [hdl]; omega
  rw [e8, show (12 + n : Nat) = 12 + ((B.drop 8).take n).length from by rw [hdl]]
  exact ak (oT V.jN rfl eI rfl rfl rfl) (.inr ⟨_, _, _, hf, rfl, rfl⟩) (sub (ar (.cons az (.cons dS .nil))) cC)
 ·refine rC cL 5 rfl ?_
  refine oV (aA (bo rfl rfl) (by omega)) ?_
  refine rO cL 6 rfl ?_
  have hS : ∀ w0 h, R w0 h → aR U5 (eh p 4 c 1) (8 - 4) ((B.drop 4).take 4) w0 h := fun w0 h hh => (hR w0 h hh).sub 4 8 c (by decide) (by omega) (by omega)
  refine wN [pz 0 [] [0], pz 1 [0] [], pz 0 [] [0], pz 4 [2] [], pz 12 [3] [], pz 3 [1] [], pz 63 [4] []] [⟨fun y => ao b4 88 [.string ByteArray.empty, .slice none 0 0], none, none, []⟩, ⟨fun y => ao bt 175 (CA [] .u32 aa.eR []), none, none, []⟩, ⟨fun y => R, none, none, [1, 4]⟩] F V.mixed ?_
  refine nM ?_
  refine nE (fun y FF hA => bK (Post := [R]) (lM p c B R hR hB (by omega) hcap) V.rv rfl (ar .nil) (fun v G h => by rcases h with ⟨rfl, rfl⟩; exact ⟨rfl, .refl _⟩)) ?_
  refine nM ?_
  refine nV (fun y hA L => dQ 4 8 _ V.cy rfl ⟨_, rfl⟩ ⟨_, rfl⟩ rfl (by omega) (by omega) (by omega)) ?_
  refine nR (fun y FF hA => lZ (T := 5) Tryz.underlying22 Tryz.underlying5 Tryz.underlying9 rfl (by exact bE hS an)) ?_
  iterate 2 refine nA ?_
  refine aU ?_
  intro y hA
  clear hA
  refine ba ?_
  refine bZ _ (.cons (d := 0) rfl (.cons (d := 1) rfl (.cons (d := 4) rfl (.cons (d := 7) rfl (.cons (d := 8) rfl (.nil _)))))) ?_
  refine bP (M := ao b4 88 [.string ByteArray.empty, .slice none 0 0] :: ao bt 175 (CA [] .u32 aa.eR []) :: R :: F) (fun _ _ h => h) ?_
  refine rC cL 3 rfl ?_
  rw [hn]
  refine rC cL 2 rfl ?_
  refine oV (aA (a8 rfl rfl) (by omega)) ?_
  refine rO cL 2 rfl ?_
  refine ag rfl ?_
  refine ai (kp ((B.drop 4).take 4) (aa.fF (aa.ek hB 4) 4) (by rw [aa.iy (by omega)]; decide) true (decide_eq_true hnm).symm) V.oE  rfl .nil rfl ?_
  rintro _ _ ⟨rfl, rfl⟩
  refine cS cL 12 rfl (by omega) ?_
  refine oV (aA (a8 rfl rfl) (by omega)) ?_
  refine rO cL 8 rfl ?_
  have hk4 := aa.fF (aa.ek hB 4) 4
  have xP := aa.fF (aa.ek hB 8) n
  have hb8 := aa.ek hB (8 + n)
  have hn4 := aa.ui hb8
  have hX8 : ∀ w0 h, R w0 h → aR U5 (eh p 8 c 1) (8 + n - 8) ((B.drop 8).take n) w0 h := fun w0 h hh => by have h1 := (hR w0 h hh).sub 8 (8 + n) c (by omega) (by omega) (by omega); rwa [Nat.add_sub_cancel_left] at h1 ⊢
  have hXn : ∀ w0 h, R w0 h → aR U5 (eh p (8 + n) c 1) (B.length - (8 + n)) (B.drop (8 + n)) w0 h := fun w0 h hh => gS (c := U5) hR rfl (8 + n) c (by omega) hcap w0 h hh
  refine rC cL 3 rfl ?_
  refine oV (cH (v := .int .i64 ((8 + n : Nat) : Int)) (dj rfl rfl wI) (by congr 1)) ?_
  refine oV (dQ 8 (8 + n) c V.cy rfl ⟨_, rfl⟩ ⟨_, rfl⟩ rfl (by omega) (by omega) (by omega)) ?_
  refine rO cL 8 rfl ?_
  refine oV (cH (v := .int .i64 ((8 + n : Nat) : Int)) (dj rfl rfl wI) (by congr 1)) ?_
  refine oV (dQ (8 + n) B.length c V.cy rfl ⟨_, rfl⟩ ⟨rfl, rfl⟩ rfl (by omega) (by omega) (by omega)) ?_
  refine ai (uZ (eh p (8 + n) c 1) (c - (8 + n)) (B.length - (8 + n)) (B.drop (8 + n)) R hXn List.length_drop hb8 (by omega) (by omega)) V.rv  rfl (.cons bX .nil) rfl ?_
  rintro _ _ ⟨rfl, rfl⟩
  refine oV (bC V.u3 Tryz.underlying76 rfl (aL.wrap32 hn4.1 hn4.2)) ?_
  refine rO cL 3 rfl ?_
  refine ai (vP bt ((B.drop 4).take 4) hk4 (by rw [aa.iy (by omega)]; decide) (eh p 8 c 1) (c - 8) (8 + n - 8) ((B.drop 8).take n) R hX8 (by rw [aa.iy (by omega)]; omega) (by omega) xP) V.KE  rfl (.cons bX (ar .nil)) rfl ?_
  rintro _ _ ⟨rfl, rfl⟩
  refine oV (aY (bY rfl rfl) hsum) ?_
  refine rO cL 5 rfl ?_
  refine oV (cD V.ue V.ld rfl (cs := [.string ByteArray.empty, .slice none 0 0]) rfl) ?_
  refine aT (aH V.jN rfl rfl (us := [_, _]) rfl rfl (by exact nb) (by exact Nat.le_of_ble_eq_true rfl) rfl) ?_
  refine rO cL 6 rfl ?_
  exact ak (oT V.jN rfl dH rfl rfl rfl) (.inl ⟨5, hf, rfl, rfl⟩) (sub (bD .nil) cC)
end Go.Proofs.YtmaiakpjgomnpaaGreat
namespace Go.Proofs.YtmaiakpjgomnpaaGreat
open Go.Sl
theorem V.QO : aF Tryz.prog 76 = true := by kernel_rfl
theorem V.N6 : aF Tryz.prog 77 = true := by kernel_rfl
theorem V.QD : aF Tryz.prog 78 = true := by kernel_rfl
theorem V.FP : aF Tryz.prog 79 = true := by kernel_rfl
theorem V.nu : cg Tryz.prog 88 0 = some 0 := by kernel_rfl
theorem V.s9 : df Tryz.prog 9 = true := by kernel_rfl
theorem V.gr : sliceB Tryz.prog 84 = some (88, 2, 40) := by kernel_rfl
end Go.Proofs.YtmaiakpjgomnpaaGreat
namespace Go.Proofs.YtmaiakpjgomnpaaGreat
open Go.Sl 
theorem cV : dR Tryz.prog ⟨[22], [(88, 0, 0)]⟩ = true := by kernel_rfl
attribute [local irreducible] aj.av aa.gJ aa.gM aa.eB aa.ga aa.eR aa.im aa.ia aa.first aa.cut aa.gn aa.fx aa.cu
structure Ce where
 k : List Int
 p : Option Addr
 c : Nat
 d : List Int
def Ce.ch (x : Ce) : aa.Ch := ⟨x.k, x.d⟩
def IZ (x : Ce) : Option Addr × List Int := (x.p, x.d)
abbrev CK : Ec Ce := ⟨88, 2, fun x => [.string (strOfNums x.k), .slice x.p x.d.length x.c], ⟨[], none, 0, []⟩, fun _ => rfl, fun _ => rfl⟩
abbrev DK (l : List Ce) : ab := CN U5 IZ l
def yD (x : Ce) : Prop := x.d.length ≤ x.c
theorem zg {es : List Ce} {x : Ce} (h : ∀ y ∈ es, yD y) (hx : x.d.length ≤ x.c) : ∀ y ∈ es ++ [x], yD y := fun y hy => (List.mem_append.1 hy).elim (h y) (fun e => List.mem_singleton.1 e ▸ hx)
theorem D2 (bt : Nat) (p : Option Addr) (c n : Nat) (L : List Int) (R : ab) (hR : ∀ w0 h, R w0 h → aR U5 p n L w0 h) (hn : L.length = n) (hl : n < 500000000) (hB : aj.av L) (hcap : n ≤ c) (e : Int) (hf : aa.first L = .error e) : aE Tryz.prog 79 [.slice p n c, .pointer (some ⟨bt, 0, none⟩)] [ao bt 175 (CA [] .u32 aa.eR []), R] (aO fun v G => v = .tuple #[.agg #[.string ByteArray.empty, .slice none 0 0], .int .i64 0, .int .i64 e] ∧ G = [ao bt 175 (CA [] .u32 aa.eR []), R]) := by
 subst hn
 refine (yo bt p c L R hR hl hB hcap).mono ?_
 rintro e2 G ⟨v, rfl, (⟨e', h, rfl, rfl⟩ | ⟨x, q, cq, h, _, _⟩)⟩
 ·rw [hf] at h; cases h; exact ⟨_, rfl, rfl, rfl⟩
 ·rw [hf] at h; cases h
theorem rJ (bt : Nat) (p : Option Addr) (c n : Nat) (L : List Int) (R : ab) (hR : ∀ w0 h, R w0 h → aR U5 p n L w0 h) (hn : L.length = n) (hl : n < 500000000) (hB : aj.av L) (hcap : n ≤ c) (x : aa.Ch) (hf : aa.first L = .ok x) : aE Tryz.prog 79 [.slice p n c, .pointer (some ⟨bt, 0, none⟩)] [ao bt 175 (CA [] .u32 aa.eR []), R] (aO fun v G => ∃ q cq, v = .tuple #[.agg #[.string (strOfNums x.k), .slice q x.d.length cq], .int .i64 ((12 + x.d.length : Nat) : Int), .int .i64 0] ∧ G = [Row U5 q x.d.length cq x.d, ao bt 175 (CA [] .u32 aa.eR []), R]) := by
 subst hn
 refine (yo bt p c L R hR hl hB hcap).mono ?_
 rintro e2 G ⟨v, rfl, (⟨e', h, _, _⟩ | ⟨x', q, cq, h, rfl, rfl⟩)⟩
 ·rw [hf] at h; cases h
 ·rw [hf] at h; cases h; exact ⟨_, rfl, q, cq, rfl, rfl⟩
theorem uG (p : Option Addr) (c n : Nat) (L : List Int) (R : ab) (hR : ∀ w0 h, R w0 h → aR U5 p n L w0 h) (hn : L.length = n) (hB : aj.av L) (hcap : n ≤ c) (p2 : Option Addr) (c2 n2 : Nat) (D : List Int) (R2 : ab) (hR2 : ∀ w0 h, R2 w0 h → aR U5 p2 n2 D w0 h) (hn2 : D.length = n2) (hD : aj.av D) (hlen : n2 ≤ n) (t : Bool) (ht : t = decide (L.take n2 = D)) : aE Tryz.prog 77 [.slice p n c, .slice p2 n2 c2] [R, R2] (aO fun v G => v = .bool t ∧ G = [R, R2]) := by
 subst hn; subst hn2; exact C6 p c L R hR hB hcap p2 c2 D R2 hR2 hD hlen t ht
set_option maxHeartbeats 8000000 in
theorem Fo (p : Option Addr) (c : Nat) (B : List Int) (R : ab) (hR : ∀ w0 h, R w0 h → aR U5 p B.length B w0 h) (hl : B.length < 500000000) (hB : aj.av B) (hcap : B.length ≤ c) : aE Tryz.prog 37 [.slice p B.length c] [R] (aO fun v G => (∃ e, aa.cut B = .error e ∧ v = .tuple #[.slice none 0 0, .int .i64 e] ∧ G = [R]) ∨ (∃ q cq, ∃ es : List Ce, aa.cut B = .ok (es.map Ce.ch) ∧ es.length ≤ 262144 ∧ (∀ y ∈ es, yD y) ∧ v = .tuple #[.slice q es.length cq, .int .i64 0] ∧ G = [Row CK q es.length cq es, DK es, R])) := by
 refine au [(0, _)] Tryz.func37 rfl Tryz.ntmps37 rfl rfl ?_
 intro w0 F
 refine rT cV 8 rfl ?_
 refine ai (KN) V.QO  rfl .nil rfl ?_
 rintro _ _ ⟨b10, rfl, rfl⟩
 refine rO cV 5 rfl ?_
 rcases (aa.Ih B) with ⟨h1, hc⟩ | ⟨h1, hc⟩ | ⟨h1, h2, hsg, hc⟩ | ⟨h1, h2, hsg, hc⟩
 ·refine rC cV 4 rfl ?_
  refine oV (aY (a8 rfl rfl) (by omega)) ?_
  refine rO cV 13 rfl ?_
  exact ak (fy rfl rfl) (.inl ⟨3, hc, rfl, rfl⟩) (sub (.cons az .nil) cC)
 ·refine rC cV 4 rfl ?_
  refine oV (aA (a8 rfl rfl) (by omega)) ?_
  refine rO cV 10 rfl ?_
  refine oV (aY (bo rfl rfl) (by omega)) ?_
  refine rO cV 13 rfl ?_
  exact ak (fy rfl rfl) (.inl ⟨2, hc, rfl, rfl⟩) (sub (.cons az .nil) cC)
 ·refine rC cV 4 rfl ?_
  refine oV (aA (a8 rfl rfl) (by omega)) ?_
  refine rO cV 10 rfl ?_
  refine oV (aA (bo rfl rfl) (by omega)) ?_
  refine rO cV 8 rfl ?_
  refine ai (uG p c B.length B R hR rfl hB hcap (some ⟨b10, 0, none⟩) 8 8 aa.fx (Row U5 (some ⟨b10, 0, none⟩) 8 8 aa.fx) (fun _ _ hh => hh.rd) aa.wG aa.se (by omega) false (decide_eq_false hsg).symm) V.N6  rfl (.cons az (ar .nil)) rfl ?_
  rintro _ _ ⟨rfl, rfl⟩
  refine rO cV 14 rfl ?_
  exact ak (fy rfl rfl) (.inl ⟨4, hc, rfl, rfl⟩) (sub (ar .nil) cC)
 ·refine rC cV 4 rfl ?_
  refine oV (aA (a8 rfl rfl) (by omega)) ?_
  refine rO cV 10 rfl ?_
  refine oV (aA (bo rfl rfl) (by omega)) ?_
  refine rO cV 8 rfl ?_
  refine ai (uG p c B.length B R hR rfl hB hcap (some ⟨b10, 0, none⟩) 8 8 aa.fx (Row U5 (some ⟨b10, 0, none⟩) 8 8 aa.fx) (fun _ _ hh => hh.rd) aa.wG aa.se (by omega) true (decide_eq_true hsg).symm) V.N6  rfl (.cons az (ar .nil)) rfl ?_
  rintro _ _ ⟨rfl, rfl⟩
  refine rO cV 10 rfl ?_
  refine ai (Mh) V.QD  rfl .nil rfl ?_
  rintro _ _ ⟨b26, rfl, rfl⟩
  refine rO cV 13 rfl ?_
  refine oV (dQ 8 B.length c V.cy rfl ⟨_, rfl⟩ ⟨rfl, rfl⟩ rfl (by omega) (by omega) (by omega)) ?_
  refine rO cV 4 rfl ?_
  refine gT (DK []) (Hm _ _ _ _) ?_
  refine gT (Row CK none 0 0 []) (Row.nil _ _ _) ?_
  rw [show B.length - 8 = (B.drop 8).length from List.length_drop.symm]
  refine zi (fun (f : Nat) (pz : Option Addr) (cz : Nat) (Z : List Int) (pl : Option Addr) (cl : Nat) (es : List Ce) => [(0, .slice pz Z.length cz), (5, .pointer (some ⟨b26, 0, none⟩)), (6, .slice pl es.length cl)]) (fun (f : Nat) (pz : Option Addr) (cz : Nat) (Z : List Int) (pl : Option Addr) (cl : Nat) (es : List Ce) => Row CK pl es.length cl es :: DK es :: ao b26 175 (CA [] .u32 aa.eR []) :: R :: F) (fun (f : Nat) (pz : Option Addr) (cz : Nat) (Z : List Int) (pl : Option Addr) (cl : Nat) (es : List Ce) => aa.gn f Z (es.map Ce.ch) = aa.cut B ∧ Z.length < f ∧ (∀ w0 h, R w0 h → aR U5 pz Z.length Z w0 h) ∧ Z.length ≤ cz ∧ aj.av Z ∧ es.length + Z.length ≤ 262144 ∧ (∀ y ∈ es, yD y)) (fun (f : Nat) (pz : Option Addr) (cz : Nat) (Z : List Int) (pl : Option Addr) (cl : Nat) (es : List Ce) => f) (i7 ((B.length + 1)) ((eh p 8 c 1)) ((c - 8)) ((B.drop 8)) (none) (0) ([]) ?_ (jg ln) (sub (ny .nil) cC)) ?_
  ·exact ⟨hc, by rw [List.length_drop]; omega, by rw [List.length_drop]; exact gS (c := U5) hR rfl 8 c (by omega) hcap, by rw [List.length_drop]; omega, aa.ek hB 8, by rw [List.length_drop]; show 0 + _ ≤ _; omega, fun y hy => by cases hy⟩
  intro f pz cz Z pl cl es
  rintro ⟨hcut, hZf, hZR, hZc, hZB, hes, hco⟩
  obtain ⟨f, rfl⟩ : ∃ g, f = g + 1 := ⟨f - 1, by omega⟩
  refine rL cV 1 rfl ?_
  rcases (aa.O1 hZB) with ⟨e, hf, he⟩ | ⟨x, hf, hxl, hxn, hxB, hk⟩ | ⟨x, hf, hxl, hxn, hxB, hk⟩ | ⟨x, hf, hxl, hxn, hxB, hk⟩
  ·refine rC cV 4 rfl ?_
   refine ai (D2 b26 pz cz Z.length Z R hZR rfl (by omega) hZB hZc e hf) V.FP  rfl (.cons bX (.cons bX .nil)) rfl ?_
   rintro _ _ ⟨rfl, rfl⟩
   refine rO cV 4 rfl ?_
   refine cn V.ld rfl ?_
   intro b7
   refine aT (aH V.jN rfl rfl (us := [_, _]) rfl rfl (by exact cZ) (by exact Nat.le_of_ble_eq_true rfl) rfl) ?_
   refine rO cV 8 rfl ?_
   refine oV (aY (bY rfl rfl) he) ?_
   refine rO cV 15 rfl ?_
   rw [aa.Ij hf] at hcut
   exact ak (fy rfl rfl) (.inl ⟨e, hcut.symm, rfl, rfl⟩) (sub (.cons bX .nil) mw)
  ·refine rC cV 4 rfl ?_
   refine ai (rJ b26 pz cz Z.length Z R hZR rfl (by omega) hZB hZc x hf) V.FP  rfl (.cons bX (.cons bX .nil)) rfl ?_
   rintro _ _ ⟨q35, c35, rfl, rfl⟩
   refine rO cV 4 rfl ?_
   refine cn V.ld rfl ?_
   intro b7
   refine aT (aH V.jN rfl rfl (us := [_, _]) rfl rfl (by exact cZ) (by exact Nat.le_of_ble_eq_true rfl) rfl) ?_
   refine rO cV 8 rfl ?_
   refine oV (aA (bY rfl rfl) (fun h => h rfl)) ?_
   refine rO cV 9 rfl ?_
   refine oV (dQ (12 + x.d.length) Z.length cz V.cy rfl ⟨_, rfl⟩ ⟨rfl, rfl⟩ rfl (by omega) (by omega) (by omega)) ?_
   refine rO cV 6 rfl ?_
   refine oV (bJ V.jN rfl an (vs := [_, _]) rfl rfl) ?_
   refine eb (CK) [(Ce.mk x.k q35 c35 x.d)] V.gr V.ld rfl rfl rfl rfl rfl rfl ?_
   intro b46
   refine ef (c := (CK)) V.gr V.ld rfl rfl rfl rfl j6 (own an) (by omega) rfl ?_
   intro p47 c47
   refine rO cV 5 rfl ?_
   refine iV (fun w hi => gu hi (show Row U5 q35 x.d.length c35 x.d ∈ _ by exact eI)) (fun hcx => ?_)
   refine bP (aX (A := DK (es ++ [(Ce.mk x.k q35 c35 x.d)])) (.cons n4 (.cons ed .nil)) aw (fun w0 h hh => tO (x := (Ce.mk x.k q35 c35 x.d)) rfl hh)) ?_
   refine rC cV 2 rfl ?_
   refine oV (ae V.s9 rfl eI rfl) ?_
   refine oV (cH (v := .bool true) (ko (r := false) (th (aa.aV (aa.qY hxn)) (aa.aV aa.xA) hk) rfl (show aq _ _ = some (.string (strOfNums aa.cu)) by unfold aa.cu; rfl)) rfl) ?_
   refine rO cV 6 rfl ?_
   have hdl : (Z.drop (12 + x.d.length)).length = Z.length - (12 + x.d.length) := List.length_drop
   have hel : (es ++ [(Ce.mk x.k q35 c35 x.d)]).length = es.length + 1 := by rw [List.length_append]; rfl
   rw [aa.LS hf hk, show es.map Ce.ch ++ [x] = (es ++ [(Ce.mk x.k q35 c35 x.d)]).map Ce.ch from by rw [List.map_append]; rfl] at hcut
   rw [← hdl, ← hel]
   exact j7 f _ _ (Z.drop (12 + x.d.length)) _ _ (es ++ [(Ce.mk x.k q35 c35 x.d)]) ⟨⟨hcut, by omega, by rw [hdl]; exact gS (c := U5) hZR rfl (12 + x.d.length) cz (by omega) hZc, by omega, aa.ek hZB _, by omega, zg hco hcx⟩, by omega⟩ (.cons rfl (.cons rfl (.cons rfl (.nil _)))) (sub (.cons az (.cons dS (.cons bX (.cons bX .nil)))) hJ)
  ·refine rC cV 4 rfl ?_
   refine ai (rJ b26 pz cz Z.length Z R hZR rfl (by omega) hZB hZc x hf) V.FP  rfl (.cons bX (.cons bX .nil)) rfl ?_
   rintro _ _ ⟨q35, c35, rfl, rfl⟩
   refine rO cV 4 rfl ?_
   refine cn V.ld rfl ?_
   intro b7
   refine aT (aH V.jN rfl rfl (us := [_, _]) rfl rfl (by exact cZ) (by exact Nat.le_of_ble_eq_true rfl) rfl) ?_
   refine rO cV 8 rfl ?_
   refine oV (aA (bY rfl rfl) (fun h => h rfl)) ?_
   refine rO cV 9 rfl ?_
   refine oV (dQ (12 + x.d.length) Z.length cz V.cy rfl ⟨_, rfl⟩ ⟨rfl, rfl⟩ rfl (by omega) (by omega) (by omega)) ?_
   refine rO cV 6 rfl ?_
   refine oV (bJ V.jN rfl an (vs := [_, _]) rfl rfl) ?_
   refine eb (CK) [(Ce.mk x.k q35 c35 x.d)] V.gr V.ld rfl rfl rfl rfl rfl rfl ?_
   intro b46
   refine ef (c := (CK)) V.gr V.ld rfl rfl rfl rfl j6 (own an) (by omega) rfl ?_
   intro p47 c47
   refine rO cV 5 rfl ?_
   refine iV (fun w hi => gu hi (show Row U5 q35 x.d.length c35 x.d ∈ _ by exact eI)) (fun hcx => ?_)
   refine bP (aX (A := DK (es ++ [(Ce.mk x.k q35 c35 x.d)])) (.cons n4 (.cons ed .nil)) aw (fun w0 h hh => tO (x := (Ce.mk x.k q35 c35 x.d)) rfl hh)) ?_
   refine rC cV 2 rfl ?_
   refine oV (ae V.s9 rfl eI rfl) ?_
   refine oV (cH (v := .bool false) (ko (r := true) (by rw [hk]; exact beq_self_eq_true _) rfl (show aq _ _ = some (.string (strOfNums aa.cu)) by unfold aa.cu; rfl)) rfl) ?_
   refine rO cV 10 rfl ?_
   refine oV (aA (a8 rfl rfl) (by omega)) ?_
   refine rO cV 16 rfl ?_
   have hel : (es ++ [(Ce.mk x.k q35 c35 x.d)]).length = es.length + 1 := by rw [List.length_append]; rfl
   rw [aa.Kp hf hk hxl, show es.map Ce.ch ++ [x] = (es ++ [(Ce.mk x.k q35 c35 x.d)]).map Ce.ch from by rw [List.map_append]; rfl] at hcut
   rw [← hel]
   exact ak (fy rfl rfl) (.inr ⟨_, _, _, hcut.symm, by omega, zg hco hcx, rfl, rfl⟩) (sub (.cons az (ar (.cons ed .nil))) oc)
  ·refine rC cV 4 rfl ?_
   refine ai (rJ b26 pz cz Z.length Z R hZR rfl (by omega) hZB hZc x hf) V.FP  rfl (.cons bX (.cons bX .nil)) rfl ?_
   rintro _ _ ⟨q35, c35, rfl, rfl⟩
   refine rO cV 4 rfl ?_
   refine cn V.ld rfl ?_
   intro b7
   refine aT (aH V.jN rfl rfl (us := [_, _]) rfl rfl (by exact cZ) (by exact Nat.le_of_ble_eq_true rfl) rfl) ?_
   refine rO cV 8 rfl ?_
   refine oV (aA (bY rfl rfl) (fun h => h rfl)) ?_
   refine rO cV 9 rfl ?_
   refine oV (dQ (12 + x.d.length) Z.length cz V.cy rfl ⟨_, rfl⟩ ⟨rfl, rfl⟩ rfl (by omega) (by omega) (by omega)) ?_
   refine rO cV 6 rfl ?_
   refine oV (bJ V.jN rfl an (vs := [_, _]) rfl rfl) ?_
   refine eb (CK) [(Ce.mk x.k q35 c35 x.d)] V.gr V.ld rfl rfl rfl rfl rfl rfl ?_
   intro b46
   refine ef (c := (CK)) V.gr V.ld rfl rfl rfl rfl j6 (own an) (by omega) rfl ?_
   intro p47 c47
   refine rO cV 5 rfl ?_
   refine iV (fun w hi => gu hi (show Row U5 q35 x.d.length c35 x.d ∈ _ by exact eI)) (fun hcx => ?_)
   refine bP (aX (A := DK (es ++ [(Ce.mk x.k q35 c35 x.d)])) (.cons n4 (.cons ed .nil)) aw (fun w0 h hh => tO (x := (Ce.mk x.k q35 c35 x.d)) rfl hh)) ?_
   refine rC cV 2 rfl ?_
   refine oV (ae V.s9 rfl eI rfl) ?_
   refine oV (cH (v := .bool false) (ko (r := true) (by rw [hk]; exact beq_self_eq_true _) rfl (show aq _ _ = some (.string (strOfNums aa.cu)) by unfold aa.cu; rfl)) rfl) ?_
   refine rO cV 10 rfl ?_
   refine oV (aY (a8 rfl rfl) (by omega)) ?_
   refine rO cV 14 rfl ?_
   rw [aa.L9 hf hk hxl] at hcut
   exact ak (fy rfl rfl) (.inl ⟨4, hcut.symm, rfl, rfl⟩) (sub (.cons j6 .nil) E6)
end Go.Proofs.YtmaiakpjgomnpaaGreat
namespace Go.Proofs.YtmaiakpjgomnpaaGreat
open Go.Sl
theorem V.Jf : aF Tryz.prog 113 = true := by kernel_rfl
theorem V.L8 : aF Tryz.prog 114 = true := by kernel_rfl
theorem V.Qu : cg Tryz.prog 137 0 = some 0 := by kernel_rfl
theorem V.Qe : cg Tryz.prog 137 1 = some 1 := by kernel_rfl
theorem V.QM : cg Tryz.prog 137 2 = some 2 := by kernel_rfl
theorem V.Ql : cg Tryz.prog 137 3 = some 3 := by kernel_rfl
end Go.Proofs.YtmaiakpjgomnpaaGreat
namespace Go.Proofs.YtmaiakpjgomnpaaGreat
open Go.Sl 
theorem bM : dR Tryz.prog ⟨[], [(88, 0, 0), (137, 0, 0), (137, 1, 1), (137, 2, 2), (137, 3, 3)]⟩ = true := by kernel_rfl
attribute [local irreducible] aj.av aa.gJ aa.gM aa.eB aa.ga aa.eR aa.im aa.bS aa.bd aa.bR aa.cu aa.dm aa.gL aa.ej
set_option maxHeartbeats 1000000 in
theorem Cu (kk : List Int) (hk : aj.av kk) (hkl : kk.length < 500000000) (t : Bool) (ht : t = decide (aa.gL kk)) : aE Tryz.prog 114 [.string (strOfNums kk)] [] (aO fun v G => v = .bool t ∧ G = []) := by
 refine au [(0, _)] Tryz.func114 rfl Tryz.ntmps114 rfl rfl ?_
 intro w0 F
 refine rT bM 5 rfl ?_
 rcases (Classical.em (aa.ej kk)) with hnm | hnm
 ·refine rC bM 3 rfl ?_
  refine ai (kp kk hk (by omega) true (decide_eq_true hnm).symm) V.oE  rfl .nil rfl ?_
  rintro _ _ ⟨rfl, rfl⟩
  refine rO bM 2 rfl ?_
  refine ag rfl ?_
  refine oV (qU 0 Tryz.underlying9 rfl rfl (aa.aV hk) rfl (by have := aa.yP hnm; omega)) ?_
  refine rO bM 6 rfl ?_
  (rw [show decide (kk.getD 0 0 ≤ 90) = t from (aa.Kh ht hnm).symm]; exact ak (G := []) (aB rfl) ⟨rfl, rfl⟩ (sub .nil aw))
 ·refine rC bM 3 rfl ?_
  refine ai (kp kk hk (by omega) false (decide_eq_false hnm).symm) V.oE  rfl .nil rfl ?_
  rintro _ _ ⟨rfl, rfl⟩
  refine rO bM 9 rfl ?_
  (obtain rfl : t = false := aa.Io ht hnm; exact ak (G := []) (aB rfl) ⟨rfl, rfl⟩ (sub .nil aw))
set_option maxHeartbeats 1000000 in
theorem Gl (b : Nat) (pl tr id_ ov : Bool) : aE Tryz.prog 113 [.pointer (some ⟨b, 0, none⟩), .pointer (some ⟨b, 0, none⟩)] [ao b 137 [.bool pl, .bool tr, .bool id_, .bool ov]] (aO fun v G => v = .bool (!pl && !id_) ∧ G = [ao b 137 [.bool true, .bool tr, .bool id_, .bool ov]]) := by
 refine au [(0, _), (1, _)] Tryz.func113 rfl Tryz.ntmps113 rfl rfl ?_
 intro w0 F
 refine rT bM 5 rfl ?_
 rcases ((by cases pl; exact .inl rfl; exact .inr rfl : pl = false ∨ pl = true)) with rfl | rfl
 ·refine rC bM 4 rfl ?_
  refine oV (ae V.s4 rfl an rfl) ?_
  refine rO bM 5 rfl ?_
  refine ag rfl ?_
  refine oV (ae V.s4 rfl an rfl) ?_
  refine ag rfl ?_
  refine oV (kO rfl) ?_
  refine rO bM 8 rfl ?_
  refine aT (bT V.s4 rfl rfl rfl (by exact cZ) (by exact Nat.le_of_ble_eq_true rfl) rfl) ?_
  refine rO bM 9 rfl ?_
  exact ak (aB rfl) ⟨rfl, rfl⟩ (sub (ar .nil) aw)
 ·refine rC bM 4 rfl ?_
  refine oV (ae V.s4 rfl an rfl) ?_
  refine rO bM 15 rfl ?_
  refine aT (bT V.s4 rfl rfl rfl (by exact cZ) (by exact Nat.le_of_ble_eq_true rfl) rfl) ?_
  refine rO bM 9 rfl ?_
  exact ak (aB rfl) ⟨rfl, rfl⟩ (sub (ar .nil) aw)
set_option maxHeartbeats 1000000 in
theorem GS (b : Nat) (pl tr id_ ov : Bool) : aE Tryz.prog 113 [.pointer (some ⟨b, 0, none⟩), .pointer (some ⟨b, 1, none⟩)] [ao b 137 [.bool pl, .bool tr, .bool id_, .bool ov]] (aO fun v G => v = .bool (!tr && !id_) ∧ G = [ao b 137 [.bool pl, .bool true, .bool id_, .bool ov]]) := by
 refine au [(0, _), (1, _)] Tryz.func113 rfl Tryz.ntmps113 rfl rfl ?_
 intro w0 F
 refine rT bM 5 rfl ?_
 rcases ((by cases tr; exact .inl rfl; exact .inr rfl : tr = false ∨ tr = true)) with rfl | rfl
 ·refine rC bM 4 rfl ?_
  refine oV (ae V.s4 rfl an rfl) ?_
  refine rO bM 5 rfl ?_
  refine ag rfl ?_
  refine oV (ae V.s4 rfl an rfl) ?_
  refine ag rfl ?_
  refine oV (kO rfl) ?_
  refine rO bM 8 rfl ?_
  refine aT (bT V.s4 rfl rfl rfl (by exact cZ) (by exact Nat.le_of_ble_eq_true rfl) rfl) ?_
  refine rO bM 9 rfl ?_
  exact ak (aB rfl) ⟨rfl, rfl⟩ (sub (ar .nil) aw)
 ·refine rC bM 4 rfl ?_
  refine oV (ae V.s4 rfl an rfl) ?_
  refine rO bM 15 rfl ?_
  refine aT (bT V.s4 rfl rfl rfl (by exact cZ) (by exact Nat.le_of_ble_eq_true rfl) rfl) ?_
  refine rO bM 9 rfl ?_
  exact ak (aB rfl) ⟨rfl, rfl⟩ (sub (ar .nil) aw)
set_option maxHeartbeats 4000000 in
theorem Cg (b : Nat) (pl tr id_ ov : Bool) (x : Ce) (hxk : aj.av x.k) (hxl : x.k.length < 500000000) : aE Tryz.prog 80 [.pointer (some ⟨b, 0, none⟩), .agg #[.string (strOfNums x.k), .slice x.p x.d.length x.c]] [ao b 137 [.bool pl, .bool tr, .bool id_, .bool ov]] (aO fun v G => v = .bool (aa.cW ⟨pl, tr, id_, ov⟩ x.ch).2 ∧ G = [ao b 137 [.bool (aa.cW ⟨pl, tr, id_, ov⟩ x.ch).1.plte, .bool (aa.cW ⟨pl, tr, id_, ov⟩ x.ch).1.trns, .bool (aa.cW ⟨pl, tr, id_, ov⟩ x.ch).1.dh, .bool (aa.cW ⟨pl, tr, id_, ov⟩ x.ch).1.kC]]) := by
 refine au [(0, _), (1, _)] Tryz.func80 rfl Tryz.ntmps80 rfl rfl ?_
 intro w0 F
 refine rT bM 2 rfl ?_
 refine eL rfl (cs := [_, _]) rfl rfl ?_
 intro b3
 refine rO bM 3 rfl ?_
 rcases (aa.MB x.k tr) with h1 | ⟨h1, h2, rfl⟩ | ⟨h1, h2, rfl⟩ | ⟨h1, h2, h3⟩ | ⟨h1, h2, h3, h4⟩ | ⟨h1, h2, h3, h4, h5⟩ | ⟨h1, h2, h3, h4, h5⟩
 ·refine rC bM 4 rfl ?_
  refine oV (ae V.s9 rfl an rfl) ?_
  refine oV (fc (aa.aV hxk) (aa.aV aa.kt) rfl (show aq _ _ = some (.string (strOfNums aa.bS)) by unfold aa.bS; rfl) (decide_eq_true h1).symm) ?_
  refine rO bM 8 rfl ?_
  refine aT (bT V.s4 rfl rfl rfl (by exact mi) (by exact Nat.le_of_ble_eq_true rfl) rfl) ?_
  refine rO bM 7 rfl ?_
  refine oV (ae V.s4 rfl bW rfl) ?_
  refine oV (kO rfl) ?_
  refine rO bM 5 rfl ?_
  exact ak (aB rfl) (by rw [show (aa.cW ⟨pl, tr, id_, ov⟩ x.ch) = _ from aa.Pa h1]; exact ⟨rfl, rfl⟩) (sub (.cons az .nil) cC)
 ·refine rC bM 4 rfl ?_
  refine oV (ae V.s9 rfl an rfl) ?_
  refine oV (fc (aa.aV hxk) (aa.aV aa.kt) rfl (show aq _ _ = some (.string (strOfNums aa.bS)) by unfold aa.bS; rfl) (decide_eq_false h1).symm) ?_
  refine rO bM 11 rfl ?_
  refine oV (ae V.s4 rfl bW rfl) ?_
  refine rO bM 2 rfl ?_
  refine aT (bT V.s4 rfl rfl rfl (by exact mi) (by exact Nat.le_of_ble_eq_true rfl) rfl) ?_
  refine rO bM 6 rfl ?_
  refine oV (ae V.s9 rfl an rfl) ?_
  refine rO bM 5 rfl ?_
  refine oV (fc (aa.aV hxk) (aa.aV aa.jT) rfl (show aq _ _ = some (.string (strOfNums aa.bd)) by unfold aa.bd; rfl) (decide_eq_true h2).symm) ?_
  refine rO bM 9 rfl ?_
  refine oV (ae V.s4 rfl bW rfl) ?_
  refine rO bM 14 rfl ?_
  (exact ak (G := [ao b 137 [.bool pl, .bool true, .bool id_, .bool id_]]) (aB rfl) (by rw [show (aa.cW ⟨pl, true, id_, ov⟩ x.ch) = _ from aa.Mn h1 h2]; exact ⟨rfl, rfl⟩) (sub (.cons az .nil) cC))
 ·refine rC bM 4 rfl ?_
  refine oV (ae V.s9 rfl an rfl) ?_
  refine oV (fc (aa.aV hxk) (aa.aV aa.kt) rfl (show aq _ _ = some (.string (strOfNums aa.bS)) by unfold aa.bS; rfl) (decide_eq_false h1).symm) ?_
  refine rO bM 11 rfl ?_
  refine oV (ae V.s4 rfl bW rfl) ?_
  refine rO bM 2 rfl ?_
  refine aT (bT V.s4 rfl rfl rfl (by exact mi) (by exact Nat.le_of_ble_eq_true rfl) rfl) ?_
  refine rO bM 6 rfl ?_
  refine oV (ae V.s9 rfl an rfl) ?_
  refine rO bM 5 rfl ?_
  refine oV (fc (aa.aV hxk) (aa.aV aa.jT) rfl (show aq _ _ = some (.string (strOfNums aa.bd)) by unfold aa.bd; rfl) (decide_eq_true h2).symm) ?_
  refine rO bM 9 rfl ?_
  refine oV (ae V.s4 rfl bW rfl) ?_
  refine rO bM 6 rfl ?_
  refine ag rfl ?_
  refine ai (Gl b pl false id_ id_) V.Jf  rfl (.cons az .nil) rfl ?_
  rintro _ _ ⟨rfl, rfl⟩
  refine rO bM 7 rfl ?_
  (exact ak (G := [ao b 137 [.bool true, .bool false, .bool id_, .bool id_]]) (aB rfl) (by rw [show (aa.cW ⟨pl, false, id_, ov⟩ x.ch) = _ from aa.NG h1 h2]; exact ⟨rfl, rfl⟩) (sub (ar .nil) cC))
 ·refine rC bM 4 rfl ?_
  refine oV (ae V.s9 rfl an rfl) ?_
  refine oV (fc (aa.aV hxk) (aa.aV aa.kt) rfl (show aq _ _ = some (.string (strOfNums aa.bS)) by unfold aa.bS; rfl) (decide_eq_false h1).symm) ?_
  refine rO bM 11 rfl ?_
  refine oV (ae V.s4 rfl bW rfl) ?_
  refine rO bM 2 rfl ?_
  refine aT (bT V.s4 rfl rfl rfl (by exact mi) (by exact Nat.le_of_ble_eq_true rfl) rfl) ?_
  refine rO bM 6 rfl ?_
  refine oV (ae V.s9 rfl an rfl) ?_
  refine rO bM 5 rfl ?_
  refine oV (fc (aa.aV hxk) (aa.aV aa.jT) rfl (show aq _ _ = some (.string (strOfNums aa.bd)) by unfold aa.bd; rfl) (decide_eq_false h2).symm) ?_
  refine rO bM 6 rfl ?_
  refine oV (fc (aa.aV hxk) (aa.aV aa.lK) rfl (show aq _ _ = some (.string (strOfNums aa.bR)) by unfold aa.bR; rfl) (decide_eq_true h3).symm) ?_
  refine rO bM 10 rfl ?_
  refine ai (GS b pl tr id_ id_) V.Jf  rfl (.cons az .nil) rfl ?_
  rintro _ _ ⟨rfl, rfl⟩
  refine rO bM 6 rfl ?_
  exact ak (aB rfl) (by rw [show (aa.cW ⟨pl, tr, id_, ov⟩ x.ch) = _ from aa.PR h1 h2 h3]; exact ⟨rfl, rfl⟩) (sub (ar .nil) cC)
 ·refine rC bM 4 rfl ?_
  refine oV (ae V.s9 rfl an rfl) ?_
  refine oV (fc (aa.aV hxk) (aa.aV aa.kt) rfl (show aq _ _ = some (.string (strOfNums aa.bS)) by unfold aa.bS; rfl) (decide_eq_false h1).symm) ?_
  refine rO bM 11 rfl ?_
  refine oV (ae V.s4 rfl bW rfl) ?_
  refine rO bM 2 rfl ?_
  refine aT (bT V.s4 rfl rfl rfl (by exact mi) (by exact Nat.le_of_ble_eq_true rfl) rfl) ?_
  refine rO bM 6 rfl ?_
  refine oV (ae V.s9 rfl an rfl) ?_
  refine rO bM 5 rfl ?_
  refine oV (fc (aa.aV hxk) (aa.aV aa.jT) rfl (show aq _ _ = some (.string (strOfNums aa.bd)) by unfold aa.bd; rfl) (decide_eq_false h2).symm) ?_
  refine rO bM 6 rfl ?_
  refine oV (fc (aa.aV hxk) (aa.aV aa.lK) rfl (show aq _ _ = some (.string (strOfNums aa.bR)) by unfold aa.bR; rfl) (decide_eq_false h3).symm) ?_
  refine rO bM 10 rfl ?_
  refine oV (ae V.s9 rfl an rfl) ?_
  refine ai (kp x.k hxk (by omega) false (decide_eq_false h4).symm) V.oE  rfl .nil rfl ?_
  rintro _ _ ⟨rfl, rfl⟩
  refine rO bM 10 rfl ?_
  (exact ak (G := [ao b 137 [.bool pl, .bool tr, .bool id_, .bool id_]]) (aB rfl) (by rw [show (aa.cW ⟨pl, tr, id_, ov⟩ x.ch) = _ from aa.Ex (r := false) h1 h2 h3 (aa.OP h4)]; exact ⟨rfl, rfl⟩) (sub (.cons az .nil) cC))
 ·refine rC bM 4 rfl ?_
  refine oV (ae V.s9 rfl an rfl) ?_
  refine oV (fc (aa.aV hxk) (aa.aV aa.kt) rfl (show aq _ _ = some (.string (strOfNums aa.bS)) by unfold aa.bS; rfl) (decide_eq_false h1).symm) ?_
  refine rO bM 11 rfl ?_
  refine oV (ae V.s4 rfl bW rfl) ?_
  refine rO bM 2 rfl ?_
  refine aT (bT V.s4 rfl rfl rfl (by exact mi) (by exact Nat.le_of_ble_eq_true rfl) rfl) ?_
  refine rO bM 6 rfl ?_
  refine oV (ae V.s9 rfl an rfl) ?_
  refine rO bM 5 rfl ?_
  refine oV (fc (aa.aV hxk) (aa.aV aa.jT) rfl (show aq _ _ = some (.string (strOfNums aa.bd)) by unfold aa.bd; rfl) (decide_eq_false h2).symm) ?_
  refine rO bM 6 rfl ?_
  refine oV (fc (aa.aV hxk) (aa.aV aa.lK) rfl (show aq _ _ = some (.string (strOfNums aa.bR)) by unfold aa.bR; rfl) (decide_eq_false h3).symm) ?_
  refine rO bM 10 rfl ?_
  refine oV (ae V.s9 rfl an rfl) ?_
  refine ai (kp x.k hxk (by omega) true (decide_eq_true h4).symm) V.oE  rfl .nil rfl ?_
  rintro _ _ ⟨rfl, rfl⟩
  refine rO bM 2 rfl ?_
  refine ag rfl ?_
  refine oV (ae V.s9 rfl an rfl) ?_
  refine ag rfl ?_
  refine ai (Cu x.k hxk (by omega) true (decide_eq_true h5).symm) V.L8  rfl .nil rfl ?_
  rintro _ _ ⟨rfl, rfl⟩
  refine rO bM 6 rfl ?_
  (exact ak (G := [ao b 137 [.bool pl, .bool tr, .bool id_, .bool id_]]) (aB rfl) (by rw [show (aa.cW ⟨pl, tr, id_, ov⟩ x.ch) = _ from aa.Ex (r := false) h1 h2 h3 (aa.Ph h5)]; exact ⟨rfl, rfl⟩) (sub (.cons az .nil) cC))
 ·refine rC bM 4 rfl ?_
  refine oV (ae V.s9 rfl an rfl) ?_
  refine oV (fc (aa.aV hxk) (aa.aV aa.kt) rfl (show aq _ _ = some (.string (strOfNums aa.bS)) by unfold aa.bS; rfl) (decide_eq_false h1).symm) ?_
  refine rO bM 11 rfl ?_
  refine oV (ae V.s4 rfl bW rfl) ?_
  refine rO bM 2 rfl ?_
  refine aT (bT V.s4 rfl rfl rfl (by exact mi) (by exact Nat.le_of_ble_eq_true rfl) rfl) ?_
  refine rO bM 6 rfl ?_
  refine oV (ae V.s9 rfl an rfl) ?_
  refine rO bM 5 rfl ?_
  refine oV (fc (aa.aV hxk) (aa.aV aa.jT) rfl (show aq _ _ = some (.string (strOfNums aa.bd)) by unfold aa.bd; rfl) (decide_eq_false h2).symm) ?_
  refine rO bM 6 rfl ?_
  refine oV (fc (aa.aV hxk) (aa.aV aa.lK) rfl (show aq _ _ = some (.string (strOfNums aa.bR)) by unfold aa.bR; rfl) (decide_eq_false h3).symm) ?_
  refine rO bM 10 rfl ?_
  refine oV (ae V.s9 rfl an rfl) ?_
  refine ai (kp x.k hxk (by omega) true (decide_eq_true h4).symm) V.oE  rfl .nil rfl ?_
  rintro _ _ ⟨rfl, rfl⟩
  refine rO bM 2 rfl ?_
  refine ag rfl ?_
  refine oV (ae V.s9 rfl an rfl) ?_
  refine ag rfl ?_
  refine ai (Cu x.k hxk (by omega) false (decide_eq_false h5).symm) V.L8  rfl .nil rfl ?_
  rintro _ _ ⟨rfl, rfl⟩
  refine rO bM 6 rfl ?_
  (exact ak (G := [ao b 137 [.bool pl, .bool tr, .bool id_, .bool id_]]) (aB rfl) (by rw [show (aa.cW ⟨pl, tr, id_, ov⟩ x.ch) = _ from aa.Ex (r := true) h1 h2 h3 (aa.PI h4 h5)]; exact ⟨rfl, rfl⟩) (sub (.cons az .nil) cC))
end Go.Proofs.YtmaiakpjgomnpaaGreat
namespace Go.Proofs.YtmaiakpjgomnpaaGreat
open Go.Sl
theorem V.N1 : aF Tryz.prog 80 = true := by kernel_rfl
theorem V.k7 : cg Tryz.prog 88 1 = some 1 := by kernel_rfl
theorem V.ME : fJ Tryz.prog 137 = some [(0, 1), (1, 1), (2, 1), (3, 1)] := by kernel_rfl
theorem V.Oq : dC Tryz.prog 137 = some ([.bool false, .bool false, .bool false, .bool false]) := by kernel_rfl
end Go.Proofs.YtmaiakpjgomnpaaGreat

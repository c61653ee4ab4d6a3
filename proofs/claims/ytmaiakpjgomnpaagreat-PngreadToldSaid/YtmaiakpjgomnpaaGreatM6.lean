/- Walks of functions that the law reaches, and what they lean on; no conditions. -/
import Derived.Test.YtmaiakpjgomnpaaGreatM1
import Derived.KernelRfl
import Derived.Test.YtmaiakpjgomnpaaGreatM5
import Derived.Test.YtmaiakpjgomnpaaGreatM2
import Derived.Test.YtmaiakpjgomnpaaGreatM4
import Derived.Test.YtmaiakpjgomnpaaGreatM3
import Derived.Laws.BytesArg
import Derived.Shelf.Sort.Plain
set_option linter.unusedVariables false
set_option linter.unusedSimpArgs false
set_option maxRecDepth 100000
namespace Go.Proofs.YtmaiakpjgomnpaaGreat
open Go.Sl 
theorem bC : dU Tryz.prog ⟨[22], [(223, 0, 0), (223, 3, 3), (223, 4, 4), (223, 5, 5)]⟩ = true := by kernel_rfl
attribute [local irreducible] af.cg af.tk af.ord af.cM af.words af.dj ab.iK ab.dg ab.dE ab.ew ab.hL ab.hD ab.hC ab.fF ab.told ab.ga ab.ju ab.rep ab.fw ab.eI ab.sym ab.dN aj.aT ab.fa ab.dT ab.one ab.eY
set_option maxHeartbeats 2000000 in
theorem Ez (b bl : Nat) (sz mo : Int) (B : List Int) (s : ab.St) (n : Int) (hok : ab.Ok B mo s) (hm : mo < 1000000000) (hx : n < 1 ∨ s.ended = true) : aG Tryz.prog 147 [.pointer (some ⟨b, 0, none⟩), .int .i64 n] [MM b bl sz mo B s] (aQ fun v G => v = .bool s.ended ∧ G = [MM b bl sz mo B s]) := by
 refine av [(0, _), (1, _)] Tryz.func147 rfl Tryz.ntmps147 rfl rfl ?_
 intro w0 F
 have hro := hok.room
 refine gr dQ (fun h hh => jY hh) ?_
 rintro ⟨li, di⟩ _
 dsimp only
 simp only [List.cons_append, List.nil_append]
 refine gD (fun h hh => iS hh) ?_
 rintro ⟨po, co⟩ _
 dsimp only
 simp only [List.cons_append, List.nil_append]
 refine rT bC 2 rfl ?_
 refine eN rfl (cs := [_]) rfl rfl ?_
 intro b2
 refine eN rfl (cs := [_]) rfl rfl ?_
 intro b3
 refine rO bC 6 rfl ?_
 refine oV (ae V.gQ rfl bW rfl) ?_
 refine oV (cK (v := .bool false) (iU Tryz.underlying204 rfl rfl) rfl) ?_
 refine oV (aK rfl) ?_
 refine ag rfl ?_
 refine oV (ae V.gQ rfl bW rfl) ?_
 refine rO bC 2 rfl ?_
 refine ag rfl ?_
 refine oV (ae V.dV rfl dJ rfl) ?_
 refine ag rfl ?_
 refine oV (cK (v := .bool false) (iU Tryz.underlying219 rfl rfl) rfl) ?_
 refine rO bC 6 rfl ?_
 rcases (Classical.em (n < 1)) with h1 | h1
 ·refine rC bC 3 rfl ?_
  refine oV (ae V.s3 rfl an rfl) ?_
  refine oV (aW (bu rfl rfl) h1) ?_
  refine rO bC 11 rfl ?_
  refine oV (ae V.gQ rfl bW rfl) ?_
  refine rO bC 2 rfl ?_
  refine oV (ae V.s4 rfl dJ rfl) ?_
  refine rO bC 5 rfl ?_
  exact ak (aC rfl) ⟨rfl, rfl⟩ (Sl.Sub.trans ((aV (.cons bX (.cons bX .nil)) .refl (fun w0 h hh => dz (s := s) rfl hh)).trans (aV (ar (.cons bX (.cons bX .nil))) .refl (fun w0 h hh => fx (s := s) hh))) (sub (ar .nil) ie))
 ·refine rC bC 3 rfl ?_
  refine oV (ae V.s3 rfl an rfl) ?_
  refine oV (aA (bu rfl rfl) h1) ?_
  refine oV (aK rfl) ?_
  refine ag rfl ?_
  refine oV (ae V.gQ rfl bW rfl) ?_
  refine rO bC 2 rfl ?_
  refine ag rfl ?_
  refine oV (cK (v := .bool true) (ae V.s4 rfl dJ rfl) (by rw [hx.resolve_left h1])) ?_
  refine rO bC 6 rfl ?_
  refine oV (ae V.gQ rfl bW rfl) ?_
  refine rO bC 2 rfl ?_
  refine oV (ae V.s4 rfl dJ rfl) ?_
  refine rO bC 5 rfl ?_
  exact ak (aC rfl) ⟨rfl, rfl⟩ (Sl.Sub.trans ((aV (.cons bX (.cons bX .nil)) .refl (fun w0 h hh => dz (s := s) rfl hh)).trans (aV (ar (.cons bX (.cons bX .nil))) .refl (fun w0 h hh => fx (s := s) hh))) (sub (ar .nil) ie))
set_option maxHeartbeats 2000000 in
theorem EG (b bl : Nat) (sz mo : Int) (B : List Int) (s : ab.St) (n : Int) (hl : B.length < 500000000) (hB : aj.au B) (hn : 1 ≤ n) (hok : ab.Ok B mo s) (hm : mo < 1000000000) (he : s.ended = false) (s2 : ab.St) (hlp : ab.Lp B mo s.out.length n s (.ok s2)) : aG Tryz.prog 147 [.pointer (some ⟨b, 0, none⟩), .int .i64 n] [MM b bl sz mo B s] (aQ fun v G => v = .bool s2.ended ∧ G = [MM b bl sz mo B s2]) := by
 refine av [(0, _), (1, _)] Tryz.func147 rfl Tryz.ntmps147 rfl rfl ?_
 intro w0 F
 have hro := hok.room
 refine gr dQ (fun h hh => jY hh) ?_
 rintro ⟨li, di⟩ _
 dsimp only
 simp only [List.cons_append, List.nil_append]
 refine gD (fun h hh => iS hh) ?_
 rintro ⟨po, co⟩ _
 dsimp only
 simp only [List.cons_append, List.nil_append]
 refine rT bC 2 rfl ?_
 refine eN rfl (cs := [_]) rfl rfl ?_
 intro b2
 refine eN rfl (cs := [_]) rfl rfl ?_
 intro b3
 refine rO bC 6 rfl ?_
 refine oV (ae V.gQ rfl bW rfl) ?_
 refine oV (cK (v := .bool false) (iU Tryz.underlying204 rfl rfl) rfl) ?_
 refine oV (aK rfl) ?_
 refine ag rfl ?_
 refine oV (ae V.gQ rfl bW rfl) ?_
 refine rO bC 2 rfl ?_
 refine ag rfl ?_
 refine oV (ae V.dV rfl dJ rfl) ?_
 refine ag rfl ?_
 refine oV (cK (v := .bool false) (iU Tryz.underlying219 rfl rfl) rfl) ?_
 refine rO bC 9 rfl ?_
 refine oV (ae V.s3 rfl an rfl) ?_
 refine oV (aA (bu rfl rfl) (by omega)) ?_
 refine oV (aK rfl) ?_
 refine ag rfl ?_
 refine oV (ae V.gQ rfl bW rfl) ?_
 refine rO bC 2 rfl ?_
 refine ag rfl ?_
 refine oV (cK (v := .bool false) (ae V.s4 rfl dJ rfl) (by rw [he])) ?_
 refine rO bC 8 rfl ?_
 refine oV (ae V.gQ rfl bW rfl) ?_
 refine rO bC 2 rfl ?_
 refine oV (ae V.eC rfl dJ rfl) ?_
 refine oV (ez (ty' := 0) Tryz.underlying22 rfl) ?_
 refine cC V.z3 rfl ?_
 intro b5
 refine aU (bZ V.s3 rfl rfl rfl (by exact cY) (by exact Nat.le_of_ble_eq_true rfl) rfl) ?_
 refine rO bC 3 rfl ?_
 refine bS (Sl.Sub.trans (aV (.cons dI (.cons dI .nil)) .refl (fun w0 h hh => dz (s := s) rfl hh)) (aV (ar (.cons dI (.cons dI .nil))) .refl (fun w0 h hh => fx (s := s) hh))) ?_
 refine bK ?_
 refine oV (AU (fs := []) (cs := [_, _, _]) rfl rfl) ?_
 refine ai (EH (f := 168) (cs := [.pointer (some ⟨b2, 0, none⟩), .pointer (some ⟨b5, 0, none⟩), .pointer (some ⟨b3, 0, none⟩)]) (R := fun G => G = [ao b2 204 [.pointer (some ⟨b, 0, none⟩)], ao b5 3 [.int .i64 (s.out.length : Int)], ao b3 3 [.int .i64 n], MM b bl sz mo B s2]) (aG.RM ((zM b2 b5 b3 b bl sz mo s.out.length n s (.ok s2) B hl hB hm (by omega) hok hlp).ok rfl)) V.Mz) V.K8  rfl (.cons dI (.cons ay (.cons ay (ar .nil)))) rfl ?_
 rintro _ _ ⟨rfl, rfl⟩
 refine rO bC 7 rfl ?_
 refine oV (aA (cx rfl rfl) (by decide)) ?_
 refine rO bC 6 rfl ?_
 refine gr dI (fun h hh => jY hh) ?_
 rintro ⟨li2, di2⟩ _
 dsimp only
 simp only [List.cons_append, List.nil_append]
 refine gD (fun h hh => iS hh) ?_
 rintro ⟨po2, co2⟩ _
 dsimp only
 simp only [List.cons_append, List.nil_append]
 refine bK ?_
 refine oV (ae V.gQ rfl jF rfl) ?_
 refine rO bC 2 rfl ?_
 refine oV (ae V.s4 rfl an rfl) ?_
 refine rO bC 4 rfl ?_
 exact ak (aC rfl) ⟨rfl, rfl⟩ (Sl.Sub.trans ((aV (bF .nil) .refl (fun w0 h hh => dz (s := s2) rfl hh)).trans (aV (gm .nil) .refl (fun w0 h hh => fx (s := s2) hh))) (sub (ar .nil) n8))
theorem H2 {b bl : Nat} {sz mo : Int} {w0 : World} {h : Hp} (hh : MX b bl sz mo w0 h) : ∃ i : Vx, True ∧ dk w0 [ao b 223 [.pointer (some ⟨bl, 0, none⟩), .int .i64 sz, .int .i64 mo, i.v3, i.v4, i.v5, i.v6, i.v7, i.v8, i.v9, i.v10, i.v11, i.v12]] h := hh
theorem oq {b bl : Nat} {sz mo e : Int} {w0 : World} {h : Hp} (hh : MD b bl sz mo e w0 h) : ∃ i : Vx, True ∧ dk w0 [ao b 223 [.pointer (some ⟨bl, 0, none⟩), .int .i64 sz, .int .i64 mo, .slice none 0 0, .bool true, .int .i64 e, i.v6, i.v7, i.v8, i.v9, i.v10, i.v11, i.v12]] h := hh
set_option maxHeartbeats 2000000 in
theorem FB (b bl : Nat) (sz mo : Int) (B : List Int) (s : ab.St) (n : Int) (hl : B.length < 500000000) (hB : aj.au B) (hn : 1 ≤ n) (hok : ab.Ok B mo s) (hm : mo < 1000000000) (he : s.ended = false) (e : Int) (hE : e ≠ 0) (hlp : ab.Lp B mo s.out.length n s (.error e)) : aG Tryz.prog 147 [.pointer (some ⟨b, 0, none⟩), .int .i64 n] [MM b bl sz mo B s] (aQ fun v G => v = .bool true ∧ G = [MD b bl sz mo e]) := by
 refine av [(0, _), (1, _)] Tryz.func147 rfl Tryz.ntmps147 rfl rfl ?_
 intro w0 F
 have hro := hok.room
 refine gr dQ (fun h hh => jY hh) ?_
 rintro ⟨li, di⟩ _
 dsimp only
 simp only [List.cons_append, List.nil_append]
 refine gD (fun h hh => iS hh) ?_
 rintro ⟨po, co⟩ _
 dsimp only
 simp only [List.cons_append, List.nil_append]
 refine rT bC 2 rfl ?_
 refine eN rfl (cs := [_]) rfl rfl ?_
 intro b2
 refine eN rfl (cs := [_]) rfl rfl ?_
 intro b3
 refine rO bC 6 rfl ?_
 refine oV (ae V.gQ rfl bW rfl) ?_
 refine oV (cK (v := .bool false) (iU Tryz.underlying204 rfl rfl) rfl) ?_
 refine oV (aK rfl) ?_
 refine ag rfl ?_
 refine oV (ae V.gQ rfl bW rfl) ?_
 refine rO bC 2 rfl ?_
 refine ag rfl ?_
 refine oV (ae V.dV rfl dJ rfl) ?_
 refine ag rfl ?_
 refine oV (cK (v := .bool false) (iU Tryz.underlying219 rfl rfl) rfl) ?_
 refine rO bC 9 rfl ?_
 refine oV (ae V.s3 rfl an rfl) ?_
 refine oV (aA (bu rfl rfl) (by omega)) ?_
 refine oV (aK rfl) ?_
 refine ag rfl ?_
 refine oV (ae V.gQ rfl bW rfl) ?_
 refine rO bC 2 rfl ?_
 refine ag rfl ?_
 refine oV (cK (v := .bool false) (ae V.s4 rfl dJ rfl) (by rw [he])) ?_
 refine rO bC 8 rfl ?_
 refine oV (ae V.gQ rfl bW rfl) ?_
 refine rO bC 2 rfl ?_
 refine oV (ae V.eC rfl dJ rfl) ?_
 refine oV (ez (ty' := 0) Tryz.underlying22 rfl) ?_
 refine cC V.z3 rfl ?_
 intro b5
 refine aU (bZ V.s3 rfl rfl rfl (by exact cY) (by exact Nat.le_of_ble_eq_true rfl) rfl) ?_
 refine rO bC 3 rfl ?_
 refine bS (Sl.Sub.trans (aV (.cons dI (.cons dI .nil)) .refl (fun w0 h hh => dz (s := s) rfl hh)) (aV (ar (.cons dI (.cons dI .nil))) .refl (fun w0 h hh => fx (s := s) hh))) ?_
 refine bK ?_
 refine oV (AU (fs := []) (cs := [_, _, _]) rfl rfl) ?_
 refine ai (EY (f := 168) (cs := [.pointer (some ⟨b2, 0, none⟩), .pointer (some ⟨b5, 0, none⟩), .pointer (some ⟨b3, 0, none⟩)]) (R := fun G => G = [ao b2 204 [.pointer (some ⟨b, 0, none⟩)], ao b5 3 [.int .i64 (s.out.length : Int)], ao b3 3 [.int .i64 n], MX b bl sz mo]) ((zM b2 b5 b3 b bl sz mo s.out.length n s (.error e) B hl hB hm (by omega) hok hlp).err rfl) V.Mz) V.K8  rfl (.cons dI (.cons ay (.cons ay (ar .nil)))) rfl ?_
 rintro _ _ ⟨rfl, rfl⟩
 refine rO bC 7 rfl ?_
 refine oV (aW (cx rfl rfl) hE) ?_
 refine rO bC 3 rfl ?_
 refine gr dI (fun h hh => H2 hh) ?_
 rintro ⟨v3, v4, v5, v6, v7, v8, v9, v10, v11, v12⟩ _
 dsimp only
 simp only [List.cons_append, List.nil_append]
 refine wN [pz 0 [] [2], pz 0 [] [2], pz 0 [] [2], pz 0 [] [6], pz 1 [0] [], pz 17 [4] [], pz 49 [5] [], pz 123 [1] [], pz 251 [7] [], pz 507 [8, 3] [], pz 1023 [2] [], pz 2047 [10] [], pz 4095 [11] []] [⟨fun y => ao b 223 [.pointer (some ⟨bl, 0, none⟩), .int .i64 sz, .int .i64 mo, v3, v4, v5, v6, v7, v8, v9, v10, v11, v12], none, some 6, []⟩, ⟨fun y => ao b2 204 [.pointer (some ⟨b, 0, none⟩)], none, none, [0, 1, 2]⟩, ⟨fun y => ao b5 3 [.int .i64 (s.out.length : Int)], none, none, []⟩, ⟨fun y => ao b3 3 [.int .i64 n], none, none, []⟩, ⟨fun y => ao b 223 [.pointer (some ⟨bl, 0, none⟩), .int .i64 sz, .int .i64 mo, v3, .bool true, v5, v6, v7, v8, v9, v10, v11, v12], some 6, some 9, []⟩, ⟨fun y => ao b 223 [.pointer (some ⟨bl, 0, none⟩), .int .i64 sz, .int .i64 mo, v3, .bool true, .int .i64 e, v6, v7, v8, v9, v10, v11, v12], some 9, some 12, []⟩, ⟨fun y => ao b 223 [.pointer (some ⟨bl, 0, none⟩), .int .i64 sz, .int .i64 mo, .slice none 0 0, .bool true, .int .i64 e, v6, v7, v8, v9, v10, v11, v12], some 12, none, []⟩] F V.mixed ?_
 iterate 3 refine nR (fun y FF hA => ae V.gQ rfl an rfl) ?_
 refine nM ?_
 refine nN ?_
 refine nG V.wO ?_
 refine nE (fun y FF hA => dC (bZ V.s4 rfl rfl rfl (by exact cY) (by exact Nat.le_of_ble_eq_true rfl) rfl) ⟨rfl, .refl _⟩) ?_
 refine nN ?_
 refine nG V.Kt ?_
 refine nE (fun y FF hA => dC (bZ V.rJ rfl rfl rfl (by exact cY) (by exact Nat.le_of_ble_eq_true rfl) rfl) ⟨rfl, .refl _⟩) ?_
 refine nN ?_
 refine nG V.kP ?_
 refine nE (fun y FF hA => dC (bZ V.eC rfl rfl rfl (by exact cY) (by exact Nat.le_of_ble_eq_true rfl) rfl) ⟨rfl, .refl _⟩) ?_
 refine aX ?_
 intro y hA
 clear hA
 refine bN ?_
 refine cu _ (.cons (d := 2) rfl (.nil _)) ?_
 refine bS (M := ao b2 204 [.pointer (some ⟨b, 0, none⟩)] :: ao b5 3 [.int .i64 (s.out.length : Int)] :: ao b3 3 [.int .i64 n] :: ao b 223 [.pointer (some ⟨bl, 0, none⟩), .int .i64 sz, .int .i64 mo, .slice none 0 0, .bool true, .int .i64 e, v6, v7, v8, v9, v10, v11, v12] :: F) (fun _ _ h => h) ?_
 refine rC bC 2 rfl ?_
 refine oV (ae V.gQ rfl an rfl) ?_
 refine rO bC 2 rfl ?_
 refine oV (ae V.s4 rfl eG rfl) ?_
 refine rO bC 4 rfl ?_
 exact ak (aC rfl) ⟨rfl, rfl⟩ (aV (.cons dI .nil) n8 (fun w0 h hh => km hh))
set_option maxHeartbeats 2000000 in
theorem Ey (b bl : Nat) (sz mo : Int) (e : Int) (n : Int) : aG Tryz.prog 147 [.pointer (some ⟨b, 0, none⟩), .int .i64 n] [MD b bl sz mo e] (aQ fun v G => v = .bool true ∧ G = [MD b bl sz mo e]) := by
 refine av [(0, _), (1, _)] Tryz.func147 rfl Tryz.ntmps147 rfl rfl ?_
 intro w0 F
 refine gr dQ (fun h hh => oq hh) ?_
 rintro ⟨v3, v4, v5, v6, v7, v8, v9, v10, v11, v12⟩ _
 dsimp only
 simp only [List.cons_append, List.nil_append]
 refine rT bC 2 rfl ?_
 refine eN rfl (cs := [_]) rfl rfl ?_
 intro b2
 refine eN rfl (cs := [_]) rfl rfl ?_
 intro b3
 refine rO bC 6 rfl ?_
 refine oV (ae V.gQ rfl bW rfl) ?_
 refine oV (cK (v := .bool false) (iU Tryz.underlying204 rfl rfl) rfl) ?_
 refine oV (aK rfl) ?_
 refine ag rfl ?_
 refine oV (ae V.gQ rfl bW rfl) ?_
 refine rO bC 2 rfl ?_
 refine ag rfl ?_
 refine oV (ae V.dV rfl dJ rfl) ?_
 refine ag rfl ?_
 refine oV (cK (v := .bool false) (iU Tryz.underlying219 rfl rfl) rfl) ?_
 refine rO bC 6 rfl ?_
 rcases (Classical.em (n < 1)) with h1 | h1
 ·refine rC bC 3 rfl ?_
  refine oV (ae V.s3 rfl an rfl) ?_
  refine oV (aW (bu rfl rfl) h1) ?_
  refine rO bC 11 rfl ?_
  refine oV (ae V.gQ rfl bW rfl) ?_
  refine rO bC 2 rfl ?_
  refine oV (ae V.s4 rfl dJ rfl) ?_
  refine rO bC 5 rfl ?_
  exact ak (aC rfl) ⟨rfl, rfl⟩ (aV (.cons bX .nil) ie (fun w0 h hh => km hh))
 ·refine rC bC 3 rfl ?_
  refine oV (ae V.s3 rfl an rfl) ?_
  refine oV (aA (bu rfl rfl) h1) ?_
  refine oV (aK rfl) ?_
  refine ag rfl ?_
  refine oV (ae V.gQ rfl bW rfl) ?_
  refine rO bC 2 rfl ?_
  refine ag rfl ?_
  refine oV (ae V.s4 rfl dJ rfl) ?_
  refine rO bC 6 rfl ?_
  refine oV (ae V.gQ rfl bW rfl) ?_
  refine rO bC 2 rfl ?_
  refine oV (ae V.s4 rfl dJ rfl) ?_
  refine rO bC 5 rfl ?_
  exact ak (aC rfl) ⟨rfl, rfl⟩ (aV (.cons bX .nil) ie (fun w0 h hh => km hh))
theorem qo (b bl : Nat) (sz mo : Int) (B : List Int) (s : ab.St) : aG Tryz.prog 146 [.pointer (some ⟨b, 0, none⟩)] [MM b bl sz mo B s] (aQ fun v G => v = .bool s.ended ∧ G = [MM b bl sz mo B s]) := by
 refine av [(0, _)] Tryz.func146 rfl Tryz.ntmps146 rfl rfl ?_
 intro w0 F
 refine gr dQ (fun h hh => jY hh) ?_
 rintro ⟨li, di⟩ _
 dsimp only
 simp only [List.cons_append, List.nil_append]
 refine gD (fun h hh => iS hh) ?_
 rintro ⟨po, co⟩ _
 dsimp only
 simp only [List.cons_append, List.nil_append]
 refine rT bC 8 rfl ?_
 refine oV (cK (v := .bool true) (zR Tryz.underlying204 rfl rfl) rfl) ?_
 refine rO bC 4 rfl ?_
 refine ag rfl ?_
 refine oV (ae V.s4 rfl an rfl) ?_
 refine rO bC 5 rfl ?_
 exact ak (aC rfl) ⟨rfl, rfl⟩ (Sl.Sub.trans ((aV (bF .nil) .refl (fun w0 h hh => dz (s := s) rfl hh)).trans (aV (gm .nil) .refl (fun w0 h hh => fx (s := s) hh))) (sub (ar .nil) aw))
theorem rD (b bl : Nat) (sz mo : Int) (e : Int) : aG Tryz.prog 146 [.pointer (some ⟨b, 0, none⟩)] [MD b bl sz mo e] (aQ fun v G => v = .bool true ∧ G = [MD b bl sz mo e]) := by
 refine av [(0, _)] Tryz.func146 rfl Tryz.ntmps146 rfl rfl ?_
 intro w0 F
 refine gr dQ (fun h hh => oq hh) ?_
 rintro ⟨v3, v4, v5, v6, v7, v8, v9, v10, v11, v12⟩ _
 dsimp only
 simp only [List.cons_append, List.nil_append]
 refine rT bC 8 rfl ?_
 refine oV (cK (v := .bool true) (zR Tryz.underlying204 rfl rfl) rfl) ?_
 refine rO bC 4 rfl ?_
 refine ag rfl ?_
 refine oV (ae V.s4 rfl an rfl) ?_
 refine rO bC 5 rfl ?_
 exact ak (aC rfl) ⟨rfl, rfl⟩ (aV (ar .nil) aw (fun w0 h hh => km hh))
theorem NJ (b bl : Nat) (sz mo : Int) (B : List Int) (s : ab.St) : aG Tryz.prog 150 [.pointer (some ⟨b, 0, none⟩)] [MM b bl sz mo B s] (aQ fun v G => v = .int .i64 0 ∧ G = [MM b bl sz mo B s]) := by
 refine av [(0, _)] Tryz.func150 rfl Tryz.ntmps150 rfl rfl ?_
 intro w0 F
 refine gr dQ (fun h hh => jY hh) ?_
 rintro ⟨li, di⟩ _
 dsimp only
 simp only [List.cons_append, List.nil_append]
 refine gD (fun h hh => iS hh) ?_
 rintro ⟨po, co⟩ _
 dsimp only
 simp only [List.cons_append, List.nil_append]
 refine rT bC 9 rfl ?_
 refine oV (cK (v := .bool false) (iU Tryz.underlying204 rfl rfl) rfl) ?_
 refine rO bC 10 rfl ?_
 refine oV (ae V.rJ rfl an rfl) ?_
 refine rO bC 4 rfl ?_
 exact ak (aC rfl) ⟨rfl, rfl⟩ (Sl.Sub.trans ((aV (bF .nil) .refl (fun w0 h hh => dz (s := s) rfl hh)).trans (aV (gm .nil) .refl (fun w0 h hh => fx (s := s) hh))) (sub (ar .nil) aw))
theorem Cp (b bl : Nat) (sz mo : Int) (e : Int) : aG Tryz.prog 150 [.pointer (some ⟨b, 0, none⟩)] [MD b bl sz mo e] (aQ fun v G => v = .int .i64 e ∧ G = [MD b bl sz mo e]) := by
 refine av [(0, _)] Tryz.func150 rfl Tryz.ntmps150 rfl rfl ?_
 intro w0 F
 refine gr dQ (fun h hh => oq hh) ?_
 rintro ⟨v3, v4, v5, v6, v7, v8, v9, v10, v11, v12⟩ _
 dsimp only
 simp only [List.cons_append, List.nil_append]
 refine rT bC 9 rfl ?_
 refine oV (cK (v := .bool false) (iU Tryz.underlying204 rfl rfl) rfl) ?_
 refine rO bC 10 rfl ?_
 refine oV (ae V.rJ rfl an rfl) ?_
 refine rO bC 4 rfl ?_
 exact ak (aC rfl) ⟨rfl, rfl⟩ (aV (ar .nil) aw (fun w0 h hh => km hh))
theorem HA (b bl : Nat) (sz mo : Int) (B : List Int) (s : ab.St) (he : s.ended = false) : aG Tryz.prog 148 [.pointer (some ⟨b, 0, none⟩)] [MM b bl sz mo B s] (aQ fun v G => v = .slice none 0 0 ∧ G = [MM b bl sz mo B s]) := by
 refine av [(0, _)] Tryz.func148 rfl Tryz.ntmps148 rfl rfl ?_
 intro w0 F
 refine rT bC 9 rfl ?_
 refine ai (qo b bl sz mo B s) V.qM  rfl (ar .nil) rfl ?_
 rintro _ _ ⟨rfl, rfl⟩
 rw [he]
 refine rO bC 11 rfl ?_
 exact ak (aC rfl) ⟨rfl, rfl⟩ (sub (ar .nil) aw)
set_option maxHeartbeats 1000000 in
theorem EF (b bl : Nat) (sz mo : Int) (B : List Int) (s : ab.St) (hok : ab.Ok B mo s) (hm : mo < 500000000) (he : s.ended = true) : aG Tryz.prog 148 [.pointer (some ⟨b, 0, none⟩)] [MM b bl sz mo B s] (aQ fun v G => ∃ q c, v = .slice q s.out.length c ∧ G = [Row U5 q s.out.length c s.out, MM b bl sz mo B s]) := by
 refine av [(0, _)] Tryz.func148 rfl Tryz.ntmps148 rfl rfl ?_
 intro w0 F
 refine rT bC 9 rfl ?_
 refine ai (qo b bl sz mo B s) V.qM  rfl (ar .nil) rfl ?_
 rintro _ _ ⟨rfl, rfl⟩
 rw [he]
 refine rO bC 7 rfl ?_
 have hro := hok.room
 refine gr dQ (fun h hh => jY hh) ?_
 rintro ⟨li, di⟩ _
 dsimp only
 simp only [List.cons_append, List.nil_append]
 refine gD (fun h hh => iS hh) ?_
 rintro ⟨po, co⟩ _
 dsimp only
 simp only [List.cons_append, List.nil_append]
 refine rC bC 4 rfl ?_
 refine oV (ae V.eC rfl an rfl) ?_
 refine ai (oz po co s.out (Row U5 po s.out.length co s.out) (fun _ _ hh => hh.rd) (by omega)) V.ze  rfl (.cons ay .nil) rfl ?_
 rintro _ _ ⟨q10, c10, rfl, rfl⟩
 refine rO bC 4 rfl ?_
 exact ak (aC rfl) ⟨q10, c10, rfl, rfl⟩ (Sl.Sub.trans ((aV (.cons bX (.cons ay .nil)) .refl (fun w0 h hh => dz (s := s) rfl hh)).trans (aV (ar (.cons ay (.cons ay .nil))) .refl (fun w0 h hh => fx (s := s) hh))) (sub (.cons ay (ar .nil)) aw))
set_option maxHeartbeats 1000000 in
theorem yN (b bl : Nat) (sz mo : Int) (e : Int) : aG Tryz.prog 148 [.pointer (some ⟨b, 0, none⟩)] [MD b bl sz mo e] (aQ fun v G => ∃ q c, v = .slice q 0 c ∧ G = [Row U5 q 0 c [], MD b bl sz mo e]) := by
 refine av [(0, _)] Tryz.func148 rfl Tryz.ntmps148 rfl rfl ?_
 intro w0 F
 refine rT bC 9 rfl ?_
 refine ai (rD b bl sz mo e) V.qM  rfl (ar .nil) rfl ?_
 rintro _ _ ⟨rfl, rfl⟩
 refine rO bC 7 rfl ?_
 refine gr dQ (fun h hh => oq hh) ?_
 rintro ⟨v3, v4, v5, v6, v7, v8, v9, v10, v11, v12⟩ _
 dsimp only
 simp only [List.cons_append, List.nil_append]
 refine gp (Row U5 none 0 0 []) (Row.nil _ _ _) ?_
 refine rC bC 4 rfl ?_
 refine oV (ae V.eC rfl bW rfl) ?_
 refine ai (oz none 0 [] (Row U5 none 0 0 []) (fun _ _ hh => hh.rd) (by decide)) V.ze  rfl (ar .nil) rfl ?_
 rintro _ _ ⟨q10, c10, rfl, rfl⟩
 refine rO bC 4 rfl ?_
 exact ak (aC rfl) ⟨q10, c10, rfl, rfl⟩ (Sl.Sub.trans (aV (.cons bX .nil) .refl (fun w0 h hh => km hh)) (sub (.cons ay (ar .nil)) cD))
theorem Eb (b bl : Nat) (sz mo : Int) (B : List Int) (s : ab.St) (he : s.ended = false) : aG Tryz.prog 149 [.pointer (some ⟨b, 0, none⟩)] [MM b bl sz mo B s] (aQ fun v G => v = .int .i64 0 ∧ G = [MM b bl sz mo B s]) := by
 refine av [(0, _)] Tryz.func149 rfl Tryz.ntmps149 rfl rfl ?_
 intro w0 F
 refine rT bC 9 rfl ?_
 refine ai (qo b bl sz mo B s) V.qM  rfl (ar .nil) rfl ?_
 rintro _ _ ⟨rfl, rfl⟩
 rw [he]
 refine rO bC 18 rfl ?_
 exact ak (aC rfl) ⟨rfl, rfl⟩ (sub (ar .nil) aw)
theorem z6 (b bl : Nat) (sz mo : Int) (e : Int) (hE : e ≠ 0) : aG Tryz.prog 149 [.pointer (some ⟨b, 0, none⟩)] [MD b bl sz mo e] (aQ fun v G => v = .int .i64 0 ∧ G = [MD b bl sz mo e]) := by
 refine av [(0, _)] Tryz.func149 rfl Tryz.ntmps149 rfl rfl ?_
 intro w0 F
 refine rT bC 9 rfl ?_
 refine ai (rD b bl sz mo e) V.qM  rfl (ar .nil) rfl ?_
 rintro _ _ ⟨rfl, rfl⟩
 refine DT dQ (fun h hh => oq hh) ?_
 rintro ⟨v3, v4, v5, v6, v7, v8, v9, v10, v11, v12⟩ _
 dsimp only
 simp only [List.cons_append, List.nil_append]
 refine rO bC 5 rfl ?_
 refine ag rfl ?_
 refine oV (ae V.rJ rfl an rfl) ?_
 refine ag rfl ?_
 refine oV (aW (cx rfl rfl) hE) ?_
 refine rO bC 11 rfl ?_
 exact ak (aC rfl) ⟨rfl, rfl⟩ (aV (ar .nil) aw (fun w0 h hh => km hh))
set_option maxHeartbeats 1000000 in
theorem CT (b bl : Nat) (mo : Int) (B : List Int) (s : ab.St) (hl : B.length < 500000000) (hok : ab.Ok B mo s) (hm : mo < 1000000000) (he : s.ended = true) : aG Tryz.prog 149 [.pointer (some ⟨b, 0, none⟩)] [MM b bl (B.length : Int) mo B s] (aQ fun v G => v = .int .i64 (((s.at_ + 7) / 8 : Nat) : Int) ∧ G = [MM b bl (B.length : Int) mo B s]) := by
 refine av [(0, _)] Tryz.func149 rfl Tryz.ntmps149 rfl rfl ?_
 intro w0 F
 refine rT bC 9 rfl ?_
 refine ai (qo b bl (B.length : Int) mo B s) V.qM  rfl (ar .nil) rfl ?_
 rintro _ _ ⟨rfl, rfl⟩
 rw [he]
 refine DT dQ (fun h hh => jY hh) ?_
 rintro ⟨li, di⟩ _
 dsimp only
 simp only [List.cons_append, List.nil_append]
 refine G9 (fun h hh => iS hh) ?_
 rintro ⟨po, co⟩ _
 dsimp only
 simp only [List.cons_append, List.nil_append]
 have hat := hok.at_
 refine rO bC 5 rfl ?_
 refine ag rfl ?_
 refine oV (ae V.rJ rfl an rfl) ?_
 refine ag rfl ?_
 refine oV (aA (cx rfl rfl) (by decide)) ?_
 refine rO bC 7 rfl ?_
 refine wN [pz 0 [] [0], pz 1 [0] [], pz 3 [1] [], pz 7 [2] [], pz 0 [] [0], pz 16 [4] [], pz 48 [5] [], pz 112 [6] [], pz 240 [7] [], pz 496 [8] [], pz 1023 [3, 9] [], pz 2047 [10] []] [⟨fun y => ao b 223 [.pointer (some ⟨bl, 0, none⟩), .int .i64 (B.length : Int), .int .i64 mo, .slice po s.out.length co, .bool s.ended, .int .i64 0, .int .i64 s.kind, .int .i64 (s.left : Int), .bool s.last, li, di, .int .i64 (s.aB : Int), .int .i64 (s.cE : Int)], none, none, [3, 7]⟩, ⟨fun y => Row U5 po s.out.length co s.out, none, none, []⟩, ⟨fun y => LW bl B s.at_ [] 0, none, some 8, []⟩, ⟨fun y => CD li di s, none, none, []⟩, ⟨fun y => LW bl B s.at_ [] 0, some 8, none, []⟩] F V.mixed ?_
 refine nM ?_
 refine nN ?_
 refine nG V.K5 ?_
 refine nR (fun y FF hA => ae V.s3 rfl an rfl) ?_
 refine nM ?_
 refine nN ?_
 refine nG V.eL ?_
 refine nR (fun y FF hA => ae V.dV rfl an rfl) ?_
 refine nE (fun y FF hA => bO (Post := [LW bl B s.at_ [] 0]) (Nc bl B s.at_ [] 0 hl hok.at_) V.Qm rfl (ar .nil) (fun v G h => by rcases h with ⟨rfl, rfl⟩; exact ⟨rfl, .refl _⟩)) ?_
 refine nV (fun y hA L => fY rfl rfl (by omega) (jL (by omega) (by omega) (by omega))) ?_
 refine nV (fun y hA L => fT rfl rfl wI) ?_
 refine nA ?_
 refine aX ?_
 intro y hA
 clear hA
 refine bN ?_
 refine cu _ (.cons (d := 2) rfl (.nil _)) ?_
 refine bS (M := ao b 223 [.pointer (some ⟨bl, 0, none⟩), .int .i64 (B.length : Int), .int .i64 mo, .slice po s.out.length co, .bool s.ended, .int .i64 0, .int .i64 s.kind, .int .i64 (s.left : Int), .bool s.last, li, di, .int .i64 (s.aB : Int), .int .i64 (s.cE : Int)] :: Row U5 po s.out.length co s.out :: CD li di s :: LW bl B s.at_ [] 0 :: F) (fun _ _ h => h) ?_
 refine rC bC 1 rfl ?_
 rw [show (B.length : Int) - (8 * (B.length : Int) - (s.at_ : Int)) / 8 = (((s.at_ + 7) / 8 : Nat) : Int) from by omega]
 exact ak (aC rfl) ⟨rfl, rfl⟩ (Sl.Sub.trans ((aV (bF .nil) .refl (fun w0 h hh => dz (s := s) rfl hh)).trans (aV (ar (.cons ay (.cons dQ .nil))) .refl (fun w0 h hh => fx (s := s) hh))) (sub (ar .nil) aw))
end Go.Proofs.YtmaiakpjgomnpaaGreat
namespace Go.Proofs.YtmaiakpjgomnpaaGreat
open Go.Sl 
theorem fy : dU Tryz.prog ⟨[22], [(223, 4, 4), (223, 5, 5)]⟩ = true := by kernel_rfl
attribute [local irreducible] af.cg af.tk af.ord af.cM af.words af.dj ab.iK ab.dg ab.dE ab.ew ab.hL ab.hD ab.hC ab.fF ab.told ab.ga ab.ju ab.rep ab.fw ab.eI ab.sym ab.dN aj.aT ab.fa ab.dT ab.one ab.eY
set_option maxHeartbeats 1000000 in
theorem Ob (p : Option Addr) (cap : Nat) (B : List Int) (R : ad) (hR : ∀ w0 h, R w0 h → aS U5 p B.length B w0 h) (hl : B.length < 500000000) (mo : Int) (hm : 0 ≤ mo) : aG Tryz.prog 145 [.slice p B.length cap, .int .i64 mo] [R] (aQ fun v G => ∃ b bl, v = .pointer (some ⟨b, 0, none⟩) ∧ G = [MM b bl (B.length : Int) mo B ab.start, R]) := by
 refine av [(0, _), (1, _)] Tryz.func145 rfl Tryz.ntmps145 rfl rfl ?_
 intro w0 F
 refine rT fy 8 rfl ?_
 refine ai (vX p cap B R hR hl) V.Jy  rfl (ar .nil) rfl ?_
 rintro _ _ ⟨bl7, rfl, rfl⟩
 refine rO fy 3 rfl ?_
 refine oV (cB V.GY V.JW rfl (cs := [_, _, _, _, _, _, _, _, _, _, _, _, _]) rfl) ?_
 refine eN rfl (cs := [_, _, _, _, _, _, _, _, _, _, _, _, _]) rfl rfl ?_
 intro b12
 refine rO fy 7 rfl ?_
 refine oV (aA (bu rfl rfl) (by omega)) ?_
 refine rO fy 6 rfl ?_
 refine gp (Row U5 none 0 0 []) (Row.nil _ _ _) ?_
 refine rC fy 6 rfl ?_
 exact ak (aC rfl) ⟨b12, bl7, rfl, rfl⟩ (Sl.Sub.trans (Sl.Sub.trans (aV (.cons ay (ar .nil)) .refl (fun w0 h hh => dz (s := ab.start) (li := .pointer none) (di := .pointer none) rfl hh)) (aV (bF .nil) .refl (fun w0 h hh => ny (s := ab.start) (by decide) hh))) (sub (bF .nil) aw))
set_option maxHeartbeats 1000000 in
theorem Ig (p : Option Addr) (cap : Nat) (B : List Int) (R : ad) (hR : ∀ w0 h, R w0 h → aS U5 p B.length B w0 h) (hl : B.length < 500000000) (mo : Int) (hm : mo < 0) : aG Tryz.prog 145 [.slice p B.length cap, .int .i64 mo] [R] (aQ fun v G => ∃ b bl, v = .pointer (some ⟨b, 0, none⟩) ∧ G = [MD b bl (B.length : Int) mo 1, R]) := by
 refine av [(0, _), (1, _)] Tryz.func145 rfl Tryz.ntmps145 rfl rfl ?_
 intro w0 F
 refine rT fy 8 rfl ?_
 refine ai (vX p cap B R hR hl) V.Jy  rfl (ar .nil) rfl ?_
 rintro _ _ ⟨bl7, rfl, rfl⟩
 refine rO fy 3 rfl ?_
 refine oV (cB V.GY V.JW rfl (cs := [_, _, _, _, _, _, _, _, _, _, _, _, _]) rfl) ?_
 refine eN rfl (cs := [_, _, _, _, _, _, _, _, _, _, _, _, _]) rfl rfl ?_
 intro b12
 refine rO fy 7 rfl ?_
 refine oV (aW (bu rfl rfl) (by omega)) ?_
 refine rO fy 8 rfl ?_
 refine aU (bZ V.s4 rfl rfl rfl (by exact cY) (by exact Nat.le_of_ble_eq_true rfl) rfl) ?_
 refine rO fy 2 rfl ?_
 refine aU (bZ V.rJ rfl rfl rfl (by exact cY) (by exact Nat.le_of_ble_eq_true rfl) rfl) ?_
 refine rO fy 9 rfl ?_
 exact ak (aC rfl) ⟨b12, bl7, rfl, rfl⟩ (Sl.Sub.trans (aV (ar .nil) .refl (fun w0 h hh => km hh)) (sub (ar (.cons ay .nil)) cD))
theorem aG.Of {P : Program} {f : FuncId} {args : List Value} {Pre Gs : List ad} {v0 : Value} {A : ad} (h : aG P f args Pre (aQ fun v G => v = v0 ∧ G = Gs)) (hA : ∀ w0, A w0 (fun _ => none)) : aG P f args Pre (aQ fun v G => v = v0 ∧ G = A :: Gs) := fun w0 F w hi => (h w0 F w hi).mono fun e w' ⟨G, h1, v, h2, h3, h4⟩ => by
 subst h2; subst h3; subst h4
 exact ⟨A :: G, h1.wS (hA w0), _, rfl, rfl, rfl⟩
section
variable (b bl : Nat) (mo : Int) (B : List Int) (r : ab.Jt)
theorem Hr (sz : Int) : aG Tryz.prog 146 [.pointer (some ⟨b, 0, none⟩)] [MJ b bl sz mo B r] (aQ fun v G => v = .bool (ab.kK r) ∧ G = [MJ b bl sz mo B r]) := by
 cases r with
 | ok s => exact qo b bl sz mo B s
 | error e => exact rD b bl sz mo e
theorem Nd (sz : Int) : aG Tryz.prog 150 [.pointer (some ⟨b, 0, none⟩)] [MJ b bl sz mo B r] (aQ fun v G => v = .int .i64 (ab.Ar r) ∧ G = [MJ b bl sz mo B r]) := by
 cases r with
 | ok s => exact NJ b bl sz mo B s
 | error e => exact Cp b bl sz mo e
theorem I8 (hl : B.length < 500000000) (hm : mo < 500000000) (hok : ab.vo B mo r) : aG Tryz.prog 149 [.pointer (some ⟨b, 0, none⟩)] [MJ b bl (B.length : Int) mo B r] (aQ fun v G => v = .int .i64 (ab.rp r) ∧ G = [MJ b bl (B.length : Int) mo B r]) := by
 cases r with
 | ok s =>
  cases he : s.ended with
  | true => rw [show ab.rp (.ok s) = (((s.at_ + 7) / 8 : Nat) : Int) from if_pos he]; exact CT b bl mo B s hl hok (by omega) he
  | false => rw [show ab.rp (.ok s) = 0 from if_neg (by rw [he]; decide)]; exact Eb b bl (B.length : Int) mo B s he
 | error e => exact z6 b bl (B.length : Int) mo e hok
theorem Ki (sz : Int) (hm : mo < 500000000) (hok : ab.vo B mo r) : aG Tryz.prog 148 [.pointer (some ⟨b, 0, none⟩)] [MJ b bl sz mo B r] (aQ fun v G => ∃ q c, v = .slice q (ab.qb r).length c ∧ G = [Row U5 q (ab.qb r).length c (ab.qb r), MJ b bl sz mo B r]) := by
 cases r with
 | ok s =>
  cases he : s.ended with
  | true => rw [show ab.qb (.ok s) = s.out from if_pos he]; exact EF b bl sz mo B s hok hm he
  | false => rw [show ab.qb (.ok s) = [] from if_neg (by rw [he]; decide)]; exact (aG.Of (HA b bl sz mo B s he) (A := Row U5 none 0 0 []) (fun w0 => Row.nil U5 w0 _)).mono fun e G ⟨v, h1, h2, h3⟩ => ⟨v, h1, none, 0, h2, h3⟩
 | error e => exact yN b bl sz mo e
theorem I0 (sz n : Int) (r' : ab.Jt) (hl : B.length < 500000000) (hB : aj.au B) (hm : mo < 500000000) (hok : ab.vo B mo r) (hst : ab.AM B mo n r r') : aG Tryz.prog 147 [.pointer (some ⟨b, 0, none⟩), .int .i64 n] [MJ b bl sz mo B r] (aQ fun v G => v = .bool (ab.kK r') ∧ G = [MJ b bl sz mo B r']) := by
 rcases hst with ⟨hx, rfl⟩ | ⟨hn1, s, rfl, he, hl2⟩
 ·cases r' with
  | ok s => exact Ez b bl sz mo B s n hok (by omega) hx
  | error e => exact Ey b bl sz mo e n
 ·cases r' with
  | ok s2 => exact EG b bl sz mo B s n hl hB hn1 hok (by omega) he s2 hl2
  | error e => exact FB b bl sz mo B s n hl hB hn1 hok (by omega) he e (ab.Gk hl2 rfl) hl2
end
attribute [local irreducible] ab.qb ab.rp ab.Ar ab.kK ab.Ou
set_option maxHeartbeats 1000000 in
theorem Jr (p : Option Addr) (cap : Nat) (B : List Int) (R : ad) (hR : ∀ w0 h, R w0 h → aS U5 p B.length B w0 h) (hl : B.length < 500000000) (hB : aj.au B) (mo : Int) (hm : 0 ≤ mo ∧ mo < 500000000) (q : List Int × Int × Int) (hq : ab.jW B mo q) : aG Tryz.prog 119 [.slice p B.length cap, .int .i64 mo] [R] (aQ fun v G => ∃ qq cq, v = .tuple #[.slice qq q.1.length cq, .int .i64 q.2.1, .int .i64 q.2.2] ∧ G = [Row U5 qq q.1.length cq q.1, R]) := by
 refine av [(0, _), (1, _)] Tryz.func119 rfl Tryz.ntmps119 rfl rfl ?_
 intro w0 F
 refine rT fy 11 rfl ?_
 refine ai (Ob p cap B R hR hl mo hm.1) V.MP  rfl (ar .nil) rfl ?_
 rintro _ _ ⟨b10, bl7, rfl, rfl⟩
 refine rO fy 5 rfl ?_
 refine bS (M := MJ b10 bl7 (B.length : Int) mo B (.ok ab.start) :: R :: F) (fun _ _ h => h) ?_
 refine eb (fun (r : ab.Jt) => [(7, .pointer (some ⟨b10, 0, none⟩))]) (fun (r : ab.Jt) => MJ b10 bl7 (B.length : Int) mo B r :: R :: F) (fun (r : ab.Jt) => ab.vo B mo r ∧ ab.C7 B mo ab.start r) (fun (r : ab.Jt) => ab.DS B r) (i1 (.ok ab.start) ?_ (kQ ln) (sub (bF .nil) aw)) ?_
 ·exact ⟨ab.pc hm.1, ab.iA.refl _ _ _⟩
 intro r
 rintro ⟨hok, hat⟩
 refine rL fy 4 rfl ?_
 refine ai (Hr b10 bl7 mo B r (B.length : Int)) V.qM  rfl (ar .nil) rfl ?_
 rintro _ _ ⟨rfl, rfl⟩
 refine oV (mL rfl) ?_
 refine rO fy 2 rfl ?_
 refine ti rfl (fun h13 => ?_) (fun h13 => ?_)
 ·refine rC fy 3 rfl ?_
  have he : ab.kK r = false := by simpa using h13
  obtain ⟨r2, hst⟩ := ab.Fm hB hok 1048576
  have hgj := ab.AX hB hok hat hst
  refine rC fy 2 rfl ?_
  refine ai (I0 b10 bl7 mo B r (B.length : Int) 1048576 r2 hl hB hm.2 hok hst) V.Qt  rfl (ar .nil) rfl ?_
  rintro _ _ ⟨rfl, rfl⟩
  refine rO fy 2 rfl ?_
  refine j1 (r2) ?_ (kQ ln) (sub (bF .nil) aw)
  exact ⟨⟨hgj.ok, hgj.at_⟩, hgj.less he (by decide)⟩
 ·refine rC fy 6 rfl ?_
  have he : ab.kK r = true := by simpa using h13
  obtain rfl := hq.CI (ab.HH hm.1 hat he)
  refine rC fy 2 rfl ?_
  refine ai (Ki b10 bl7 mo B r (B.length : Int) hm.2 hok) V.LJ  rfl (ar .nil) rfl ?_
  rintro _ _ ⟨q17, c17, rfl, rfl⟩
  refine oV (aK rfl) ?_
  refine ai (I8 b10 bl7 mo B r hl hm.2 hok) V.MH  rfl (.cons ay .nil) rfl ?_
  rintro _ _ ⟨rfl, rfl⟩
  refine oV (aK rfl) ?_
  refine ai (Nd b10 bl7 mo B r (B.length : Int)) V.Nl  rfl (ar .nil) rfl ?_
  rintro _ _ ⟨rfl, rfl⟩
  refine rO fy 6 rfl ?_
  exact ak (K0 rfl rfl rfl) ⟨q17, c17, rfl, rfl⟩ (sub (.cons ay (.cons ay .nil)) cD)
set_option maxHeartbeats 1000000 in
theorem IK (p : Option Addr) (cap : Nat) (B : List Int) (R : ad) (hR : ∀ w0 h, R w0 h → aS U5 p B.length B w0 h) (hl : B.length < 500000000) (mo : Int) (hm : mo < 0) (q : List Int × Int × Int) (hq : ab.jW B mo q) : aG Tryz.prog 119 [.slice p B.length cap, .int .i64 mo] [R] (aQ fun v G => ∃ qq cq, v = .tuple #[.slice qq q.1.length cq, .int .i64 q.2.1, .int .i64 q.2.2] ∧ G = [Row U5 qq q.1.length cq q.1, R]) := by
 obtain rfl := hq.CI (.inl ⟨hm, rfl⟩)
 refine av [(0, _), (1, _)] Tryz.func119 rfl Tryz.ntmps119 rfl rfl ?_
 intro w0 F
 refine rT fy 11 rfl ?_
 refine ai (Ig p cap B R hR hl mo hm) V.MP  rfl (ar .nil) rfl ?_
 rintro _ _ ⟨b10, bl7, rfl, rfl⟩
 refine rO fy 5 rfl ?_
 refine eb (fun (z : Nat) => [(7, .pointer (some ⟨b10, 0, none⟩))]) (fun (z : Nat) => MD b10 bl7 (B.length : Int) mo 1 :: R :: F) (fun (z : Nat) => True) (fun (z : Nat) => z) (i1 (0) ?_ (kQ ln) (sub (bF .nil) aw)) ?_
 ·exact trivial
 intro z
 rintro -
 refine rL fy 4 rfl ?_
 refine ai (rD b10 bl7 (B.length : Int) mo 1) V.qM  rfl (ar .nil) rfl ?_
 rintro _ _ ⟨rfl, rfl⟩
 refine rO fy 12 rfl ?_
 refine ai (yN b10 bl7 (B.length : Int) mo 1) V.LJ  rfl (ar .nil) rfl ?_
 rintro _ _ ⟨q17, c17, rfl, rfl⟩
 refine oV (aK rfl) ?_
 refine ai (z6 b10 bl7 (B.length : Int) mo 1 (by decide)) V.MH  rfl (.cons ay .nil) rfl ?_
 rintro _ _ ⟨rfl, rfl⟩
 refine oV (aK rfl) ?_
 refine ai (Cp b10 bl7 (B.length : Int) mo 1) V.Nl  rfl (ar .nil) rfl ?_
 rintro _ _ ⟨rfl, rfl⟩
 refine rO fy 6 rfl ?_
 exact ak (K0 rfl rfl rfl) ⟨q17, c17, rfl, rfl⟩ (sub (.cons ay (.cons ay .nil)) cD)
theorem Og (p : Option Addr) (cap : Nat) (B : List Int) (R : ad) (hR : ∀ w0 h, R w0 h → aS U5 p B.length B w0 h) (hl : B.length < 500000000) (hB : aj.au B) (mo : Int) (hm : mo < 500000000) (q : List Int × Int × Int) (hq : ab.jW B mo q) : aG Tryz.prog 119 [.slice p B.length cap, .int .i64 mo] [R] (aQ fun v G => ∃ qq cq, v = .tuple #[.slice qq q.1.length cq, .int .i64 q.2.1, .int .i64 q.2.2] ∧ G = [Row U5 qq q.1.length cq q.1, R]) := by
 by_cases h : mo < 0
 ·exact IK p cap B R hR hl mo h q hq
 ·exact Jr p cap B R hR hl hB mo ⟨by omega, hm⟩ q hq
end Go.Proofs.YtmaiakpjgomnpaaGreat
namespace Go.Proofs.YtmaiakpjgomnpaaGreat
open Go.Sl 
attribute [local irreducible] af.cg af.tk af.ord af.cM af.words af.dj ab.iN ab.iK
attribute [local irreducible] af.wd af.mA af.kH af.oA
end Go.Proofs.YtmaiakpjgomnpaaGreat
namespace Go.Proofs.YtmaiakpjgomnpaaGreat
open Go.Sl 
end Go.Proofs.YtmaiakpjgomnpaaGreat
namespace Go.Proofs.YtmaiakpjgomnpaaGreat
open Go.Sl 
attribute [local irreducible] af.cg af.tk af.ord af.cM af.words af.dj af.mA af.kH af.oA af.wb af.ins af.bits
end Go.Proofs.YtmaiakpjgomnpaaGreat
namespace Go.Sl
abbrev TK : Ec aO.ef := ⟨245, 3, fun t => [.int .i64 t.lit, .int .i64 t.n, .int .i64 t.cE], ⟨0, 0, 0⟩, fun _ => rfl, fun _ => rfl⟩
end Go.Sl
namespace Go.Proofs.YtmaiakpjgomnpaaGreat
open Go.Sl 
attribute [local irreducible] List.replicate aO.hs aO.x3 aO.AH aO.ta aO.Ma aO.rq aO.ui aO.vQ
end Go.Proofs.YtmaiakpjgomnpaaGreat
namespace Go.Proofs.YtmaiakpjgomnpaaGreat
open Go.Sl 
attribute [local irreducible] aO.sT aO.AZ aO.uO aO.Ex aO.Fe aO.uG aO.D0 aO.FO aO.uk aO.qU af.cg af.wb af.ord af.cM af.words af.dj af.mA af.kH af.oA
end Go.Proofs.YtmaiakpjgomnpaaGreat
namespace Go.Proofs.YtmaiakpjgomnpaaGreat
open Go.Sl 
attribute [local irreducible] aO.GX aO.KW aO.dn aO.rr aO.D8 aO.wB aO.xM aO.wZ aO.FI aO.O4 aO.Px aO.uO aO.Ex aO.Fe aO.uG aO.D0 aO.FO List.replicate
end Go.Proofs.YtmaiakpjgomnpaaGreat
namespace Go.Sl
section
variable {C : Ctx} {E : Env} {L : List ad} {ty : TypeId}
theorem Bb (l : List Int) : l.flatMap (fun x => [Value.int .u8 x]) = l.map (Value.int .u8) := by
  induction l with
  | nil => rfl
  | cons a l ih => simp [List.flatMap_cons, ih]
theorem ma {T : TypeId} {x : Operand} {src dst e : TypeId} {p : Option Addr} {n cap : Nat} {l : List Int} (hs : C.P.underlying src = some (.slice e)) (he : C.P.underlying e = some (.int .u8)) (hd : C.P.underlying dst = some .string) (hx : aq E x = some (.slice p n cap)) (H : Has C.w0 L (aP T .u8) p n l) : cF C (.convert src dst x) ty E L (.string (strOfNums l)) L :=
  fun d pos aft g a w ha hi => by
    refine ⟨w, .inl ?_, hi, fun h => by cases h⟩
    obtain ⟨R, hm, hR⟩ := H
    have hh := hi.mem hm
    have hlen : l.length = n := Has.len ⟨R, hm, hR⟩ hi
    obtain ⟨e1, e2⟩ := hi.rd hm (fun h hh => (hR h hh).2)
    have hconv : (convert src dst (.slice p n cap)).run C.P w = .ok (.string (strOfNums l)) w := by
      cases p with
      | none =>
        have h0 : n = 0 := by
          rcases e2 with h | ⟨b, o, h, _⟩
          · exact h
          · cases h
        have hl : l = [] := List.length_eq_zero_iff.1 (by omega)
        rw [run_convert_bytes_nil w src e hs he n cap dst hd, hl]
        rfl
      | some q =>
        rcases e2 with h | ⟨b, o, h, hc⟩
        · have hl : l = [] := List.length_eq_zero_iff.1 (by omega)
          subst hl
          subst h
          rw [run_convert_bytes_string w src dst e _ 0 cap hs he hd, run_bytesToString w q 0 cap [] (by simp [loadCells, loadCellsFrom])]
          rfl
        · cases h
          refine run_convert_bytes_arg w src e hs he b o n cap l hlen (fun i hi2 => ?_) dst hd
          refine hc i _ ?_
          rw [Bb]
          have hil : i < l.length := by omega
          simp [List.getElem?_map, List.getD_eq_getElem?_getD, hil]
    simp only [execOp, ha.eval hx, Sem.run_bind, hconv, Result.andThen_ok, Sem.run_pure]
theorem GH {x y : Operand} {t t' : TypeId} {s u : ByteArray} {r : Bool} (hx : aq E x = some (.string s)) (hy : aq E y = some (.string u)) (hr : (s.toList == u.toList) = r) : cF C (.binOp .eql t x y t') ty E L (.bool r) L :=
  dS fun d pos aft g a w ha => by
    rw [jx d pos aft g (ha.eval hx) (ha.eval hy) (by simp [eqGuard])]
    simp [binOp, Op.stringOp, ← hr, Sem.run_pure]
end
end Go.Sl
namespace Go.Sl
end Go.Sl
namespace Go.Sl
end Go.Sl
namespace Go.aj
theorem ee (n : Int) : IntKind.u8.wrap n = n % 256 := rfl
theorem ri {n : Int} (h0 : 0 ≤ n) (h1 : n < 2 ^ 62) : IntKind.i64.wrap ((BitVec.ofInt IntKind.i64.bits (-1) ^^^ BitVec.ofInt IntKind.i64.bits n).toNat : Int) = -n - 1 := by
  obtain ⟨a, rfl⟩ : ∃ a : Nat, n = (a : Int) := ⟨n.toNat, by omega⟩
  have e : IntKind.i64.bits = 64 := rfl
  have e1 : BitVec.ofInt 64 (-1) = BitVec.allOnes 64 := by decide
  rw [e, e1, BitVec.xor_comm, BitVec.xor_allOnes, BitVec.toNat_not, eF, Nat.mod_eq_of_lt (by omega)]
  have e2 : ∀ m : Int, IntKind.i64.wrap m = if m % 18446744073709551616 ≥ 9223372036854775808 then m % 18446744073709551616 - 18446744073709551616 else m % 18446744073709551616 := fun m => by
    unfold IntKind.wrap
    have s1 : IntKind.i64.signed = true := rfl
    simp only [s1, e, Bool.true_and, decide_eq_true_eq]
    rfl
  rw [e2]
  have : a < 2 ^ 62 := by omega
  split <;> omega
end Go.aj
namespace Go.Sl
section
variable {C : Ctx} {E : Env} {L : List ad} {ty : TypeId}
theorem rv {x : Operand} {t : TypeId} {n r : Int} (h : aq E x = some (.int .i64 n)) (e : IntKind.i64.wrap ((BitVec.ofInt IntKind.i64.bits (-1) ^^^ BitVec.ofInt IntKind.i64.bits n).toNat : Int) = r) : cF C (.unOp .xor t x) ty E L (.int .i64 r) L := dS fun d pos aft g a w ha => by
  rw [← e]
  have s1 : IntKind.i64.signed = true := rfl
  simp [execOp, ha.eval h, Op.unary, Op.intBits, s1]
end
end Go.Sl
namespace Go.Proofs.YtmaiakpjgomnpaaGreat
open Go.Sl 
attribute [local irreducible] aO.jo aO.iB ab.gg ab.gf af.cg af.ord af.cM af.words af.dj af.wb af.oA af.kH af.mA aO.qU ab.iN ab.ga
theorem lO {c : Ec Int} {p : Option Addr} {n cap : Nat} {l : List Int} {R : ad} (hR : ∀ w0 h, R w0 h → aS c p n l w0 h) (k : Nat) (hk : k ≤ n) : ∀ w0 h, R w0 h → aS c p k (l.take k) w0 h := fun w0 h hh => by
  have := (hR w0 h hh).sub 0 k n (Nat.zero_le _) hk hk
  rwa [nU, Nat.sub_zero, List.drop_zero] at this
theorem gW {c : Ec Int} {p : Option Addr} {n : Nat} {l : List Int} {R : ad} (hR : ∀ w0 h, R w0 h → aS c p n l w0 h) (hl : l.length = n) (k m : Nat) (hk : k ≤ n) (hm : n ≤ m) : ∀ w0 h, R w0 h → aS c (eo p k m c.sz) (n - k) (l.drop k) w0 h := fun w0 h hh => by
  have := (hR w0 h hh).sub k n m hk (Nat.le_refl _) hm
  rwa [List.take_of_length_le (by rw [List.length_drop]; omega)] at this
end Go.Proofs.YtmaiakpjgomnpaaGreat
namespace Go.Proofs.YtmaiakpjgomnpaaGreat
open Go.Sl 
attribute [local irreducible] af.cg af.ord af.cM af.words af.dj af.wb af.oA af.kH af.mA aO.qU ab.ga aj.lX aO.F0 aO.wB aO.wZ aO.fA aO.fB lJ.uU
abbrev Q2 : Ec (Int × Int) := ⟨246, 2, fun x => [.int .i64 x.1, .int .i64 x.2], (0, 0), fun _ => rfl, fun _ => rfl⟩
end Go.Proofs.YtmaiakpjgomnpaaGreat
namespace Go.Sl
structure Pc where
  w : Int
  p : Option Addr
  n : Nat
  c : Nat
  s : List Int
abbrev PC : Ec Pc := ⟨267, 2, fun x => [.int .i64 x.w, .slice x.p x.n x.c], ⟨0, none, 0, 0, []⟩, fun _ => rfl, fun _ => rfl⟩
structure Sx where
  p : Option Addr
  n : Nat
  c : Nat
abbrev PS : Ec Sx := ⟨265, 1, fun x => [.slice x.p x.n x.c], ⟨none, 0, 0⟩, fun _ => rfl, fun _ => rfl⟩
abbrev QS : Ec Sx := ⟨47, 1, fun x => [.slice x.p x.n x.c], ⟨none, 0, 0⟩, fun _ => rfl, fun _ => rfl⟩
def Su (B : List Pc) : ad := fun w0 h => dk w0 (B.map fun x => Row I3 x.p x.n x.c x.s) h
def SK (xs : List Sx) (k : Nat) : Nat := ((xs.take k).map Sx.n).sum
def pk (x : Pc) : lJ.Pk := (x.w, x.s)
def LL (po : Option Addr) (n co : Nat) (A0 : List Pc) (pl : Option Addr) (nl cl : Nat) (l : List Pc) : ad := fun w0 h => (Row PC po n co A0 w0 h ∧ pl = po ∧ nl = n ∧ cl = co ∧ l = A0) ∨ dk w0 [Row PC po n co A0, Row PC pl nl cl l] h
structure SP (fr : List Int) (df : Int) : Prop where
  m1 : 1 ≤ df
  m2 : df ≤ 15
  len : fr.length ≤ 320
  SL : ∀ i, i < fr.length → 0 ≤ fr.getD i 0 ∧ fr.getD i 0 ≤ 1048576
  Rr : (lJ.LA fr fr.length).length ≤ 2 ^ df.toNat
end Go.Sl
namespace Go.Proofs.YtmaiakpjgomnpaaGreat
open Go.Sl 
end Go.Proofs.YtmaiakpjgomnpaaGreat
namespace Go.Proofs.YtmaiakpjgomnpaaGreat
open Go.Sl 
end Go.Proofs.YtmaiakpjgomnpaaGreat
namespace Go.Proofs.YtmaiakpjgomnpaaGreat
open Go.Sl 
end Go.Proofs.YtmaiakpjgomnpaaGreat
namespace Go.Proofs.YtmaiakpjgomnpaaGreat
open Go.Sl Go.Shelf
def Nv : Go.Shelf.Ren := ⟨fun | 189 => 214 | 125 => 228 | 257 => 227 | 128 => 243 | 129 => 244 | 294 => 234 | 295 => 235 | 296 => 236 | 297 => 237 | 298 => 238 | 299 => 239 | 216 => 240 | 300 => 241 | 301 => 242 | 328 => 248 | 329 => 249 | 330 => 250 | 331 => 251 | 332 => 252 | 215 => 230 | 343 => 255 | n => n, fun | 28 => 47 | 3 => 3 | 46 => 52 | 0 => 0 | 51 => 76 | 53 => 302 | 4 => 4 | 183 => 295 | 182 => 294 | 131 => 125 | 5 => 5 | 9 => 9 | 218 => 305 | 222 => 309 | 228 => 311 | 229 => 210 | n => n, fun | n => n⟩
end Go.Proofs.YtmaiakpjgomnpaaGreat
namespace Go.Proofs.YtmaiakpjgomnpaaGreat
open Go.Sl 
end Go.Proofs.YtmaiakpjgomnpaaGreat
namespace Go.Proofs.YtmaiakpjgomnpaaGreat
open Go.Sl 
attribute [local irreducible] af.cg af.ord af.cM af.words af.dj af.wb af.oA af.kH af.mA aO.qU ab.ga aj.lX aO.F0 aO.wB aO.wZ aO.fA aO.fB lJ.uU af.bits aO.dA aO.dB aO.dF aO.O6 aO.Eo aO.D6 aO.PF aO.dG aO.Pn List.replicate aO.xM
end Go.Proofs.YtmaiakpjgomnpaaGreat
namespace Go.Proofs.YtmaiakpjgomnpaaGreat
open Go.Sl 
attribute [local irreducible] aO.iB aO.K1 aO.LF aO.ui aO.sN aO.n7
abbrev S8 : Ec Sx := ⟨22, 1, fun x => [.slice x.p x.n x.c], ⟨none, 0, 0⟩, fun _ => rfl, fun _ => rfl⟩
end Go.Proofs.YtmaiakpjgomnpaaGreat
namespace Go.Proofs.YtmaiakpjgomnpaaGreat
open Go.Sl 
attribute [local irreducible] aO.n7
structure Dv where
  p1 : Option Addr
  n1 : Nat
  c1 : Nat
  t : Int
  p2 : Option Addr
  c2 : Nat
def DN (b : Nat) (B : List Int) (t : Nat) : ad := fun w0 h => ∃ i : Lv, True ∧ dk w0 [ao b 215 [.slice i.p1 B.length i.c1, .slice none 0 0, .int .i64 (t : Int), .bool false], Row U5 i.p1 B.length i.c1 B] h
def DD (b : Nat) (z : List Int) : ad := fun w0 h => ∃ i : Dv, True ∧ dk w0 [ao b 215 [.slice i.p1 i.n1 i.c1, .slice i.p2 z.length i.c2, .int .i64 i.t, .bool true], Row U5 i.p2 z.length i.c2 z] h
def DM (b : Nat) (B : List Int) : Option Nat → ad
  | some t => DN b B t
  | none => DD b (aO.n7 B)
def Sh (B : List Int) (s : Option Nat) (n : Int) : Option Nat :=
  match s with
  | none => none
  | some t => if n < 1 then some t else if (B.length : Int) ≤ t + n then none else some (t + n.toNat)
end Go.Proofs.YtmaiakpjgomnpaaGreat
namespace Go.Proofs.YtmaiakpjgomnpaaGreat
open Go.Sl 
attribute [local irreducible] aO.n7
section
variable (b : Nat) (B : List Int) (s : Option Nat)
def SO (B : List Int) : Option Nat → Prop
  | some t => t ≤ B.length
  | none => True
def Sq (B : List Int) : Option Nat → List Int
  | some _ => []
  | none => aO.n7 B
end
end Go.Proofs.YtmaiakpjgomnpaaGreat
namespace Go.Proofs.YtmaiakpjgomnpaaGreat
open Go.Sl 
theorem Sc : dU Tryz.prog ⟨[], [(151, 1, 1)]⟩ = true := by kernel_rfl
attribute [local irreducible] af.cg af.tk af.ord af.cM af.words af.dj ab.iK ab.dg ab.dE ab.ew ab.hL ab.hD ab.hC ab.fF ab.told ab.ga ab.ju ab.rep ab.fw ab.eI ab.sym ab.dN aj.aT ab.fa ab.dT ab.one ab.eY ab.qx ab.tM ab.nt ab.nP
section
variable (b2 : Nat) (ls : List Int) (b : Nat) (p : Option Addr) (cap : Nat) (B : List Int) (R : ad) (hR : ∀ w0 h, R w0 h → aS U5 p B.length B w0 h) (sh : Bool) (a : Nat) (hE : af.cg ls = 0) (hl : B.length < 500000000) (hB : aj.au B) (ha : a ≤ 8 * B.length)
include hR hE hl hB ha
end
end Go.Proofs.YtmaiakpjgomnpaaGreat
namespace Go.Proofs.YtmaiakpjgomnpaaGreat
open Go.Sl 
theorem R8 : dU Tryz.prog ⟨[22], []⟩ = true := by kernel_rfl
attribute [local irreducible] af.cg af.tk af.ord af.cM af.words af.dj ab.iK ab.dg ab.dE ab.ew ab.hL ab.hD ab.hC ab.fF ab.told ab.ga ab.ju ab.rep ab.fw ab.eI ab.sym ab.dN aj.aT ab.fa ab.dT ab.one ab.eY ab.qx ab.tM ab.nt ab.nP
def PO (b : Nat) (p : Option Addr) (cap : Nat) (B : List Int) (R : ad) : Except Int ab.St → Value → List ad → Prop
 | .error e, v, G => v = .tuple #[.slice none 0 0, .int .i64 e] ∧ G = [R]
 | .ok S, v, G => ∃ q c sh, v = .tuple #[.slice q S.out.length c, .int .i64 0] ∧ G = [ao b 151 [.slice p B.length cap, .int .i64 (S.at_ : Int), .bool false, .bool sh], R, Row U5 q S.out.length c S.out]
end Go.Proofs.YtmaiakpjgomnpaaGreat
namespace Go.Proofs.YtmaiakpjgomnpaaGreat
open Go.Sl 
theorem Rt : dU Tryz.prog ⟨[47], []⟩ = true := by kernel_rfl
attribute [local irreducible] af.cg af.tk af.ord af.cM af.words af.dj ab.iK ab.dg ab.dE ab.ew ab.hL ab.hD ab.hC ab.fF ab.told ab.ga ab.ju ab.rep ab.fw ab.eI ab.sym ab.dN aj.aT ab.fa ab.dT ab.one ab.eY ab.qx ab.tM ab.nt ab.nP ab.pI ab.zI ab.Nh ab.lB
def PD (b : Nat) (p : Option Addr) (cap : Nat) (B : List Int) (R : ad) : Except Int (Nat × List Int × List Int) → Value → List ad → Prop
 | .error e, v, G => v = .tuple #[.pointer none, .pointer none, .int .i64 e] ∧ G = [R]
 | .ok (a, l, d), v, G => ∃ x y sh, v = .tuple #[.pointer (some ⟨x, 0, none⟩), .pointer (some ⟨y, 0, none⟩), .int .i64 0] ∧ G = [ao b 151 [.slice p B.length cap, .int .i64 (a : Int), .bool false, .bool sh], R, RC x l, RC y d]
end Go.Proofs.YtmaiakpjgomnpaaGreat
namespace Go.Proofs.YtmaiakpjgomnpaaGreat
open Go.Sl 
theorem Rh : dU Tryz.prog ⟨[], []⟩ = true := by kernel_rfl
attribute [local irreducible] af.cg af.tk af.ord af.cM af.words af.dj ab.iK ab.dg ab.dE ab.ew ab.hL ab.hD ab.hC ab.fF ab.told ab.ga ab.ju ab.rep ab.fw ab.eI ab.sym ab.dN aj.aT ab.fa ab.dT ab.one ab.eY ab.qx ab.tM ab.nt ab.nP ab.lB
end Go.Proofs.YtmaiakpjgomnpaaGreat
namespace Go.Proofs.YtmaiakpjgomnpaaGreat
open Go.Sl
end Go.Proofs.YtmaiakpjgomnpaaGreat
namespace Go.Proofs.YtmaiakpjgomnpaaGreat
open Go.Sl 
theorem dm : dU Tryz.prog ⟨[22], []⟩ = true := by kernel_rfl
attribute [local irreducible] aO.n7 ab.jW aO.df aj.au aJ.fp
set_option maxHeartbeats 2000000 in
theorem Nb (p : Option Addr) (c : Nat) (B : List Int) (R : ad) (hR : ∀ w0 h, R w0 h → aS U5 p B.length B w0 h) (hl : B.length < 500000000) (hB : aj.au B) : aG Tryz.prog 160 [.int .u32 1, .slice p B.length c] [R] (aQ fun v G => v = .int .u32 (aJ.gi B) ∧ G = [R]) := by
 refine av [(0, _), (1, _)] Tryz.func160 rfl Tryz.ntmps160 rfl rfl ?_
 intro w0 F
 refine rT dm 8 rfl ?_
 refine oV (kg (r := 1) rfl rfl rfl) ?_
 refine oV (aK rfl) ?_
 refine oV (ed (r := 0) rfl rfl (by decide) rfl) ?_
 refine rO dm 13 rfl ?_
 rw [show ((5 : Nat), Value.int .u32 1) = (5, .int .u32 (aJ.fp (B.take 0)).1) from by rw [List.take_zero, aJ.qX], show ((6 : Nat), Value.int .u32 0) = (6, .int .u32 (aJ.fp (B.take 0)).2) from by rw [List.take_zero, aJ.qX]]
 refine eb (fun (i : Nat) => [(5, .int .u32 (aJ.fp (B.take i)).1), (6, .int .u32 (aJ.fp (B.take i)).2), (13, .slice p B.length c), (14, .int .i64 (B.length : Int)), (15, .int .i64 (i : Int))]) (fun (i : Nat) => R :: F) (fun (i : Nat) => i ≤ B.length) (fun (i : Nat) => B.length - i) (i1 (0) ?_ (dp ln) (sub (ar .nil) aw)) ?_
 ·exact Nat.zero_le _
 intro i
 rintro hi
 refine rL dm 6 rfl ?_
 refine aN rfl (fun h16 => ?_) (fun h16 => ?_)
 ·refine rC dm 6 rfl ?_
  refine oV (xI V.bY (by exact bE hR an)) ?_
  refine oV (xL V.s5 (by exact bE hR an)) ?_
  refine rO dm 4 rfl ?_
  have hv : 0 ≤ (U5.g B (i : Int)) ∧ (U5.g B (i : Int)) < 256 := hB.get i
  have hs := aJ.qk (B.take i)
  refine rC dm 3 rfl ?_
  refine oV (bg V.u5 Tryz.underlying76 rfl (aJ.wrap32 (by omega) (by omega))) ?_
  refine oV (du rfl rfl (aJ.wrap32 (by omega) (by omega))) ?_
  refine oV (gV (r := ((aJ.fp (B.take i)).1 + (U5.g B (i : Int))) % 65521) rfl rfl (by omega) (jy (by omega))) ?_
  refine rO dm 6 rfl ?_
  refine oV (du rfl rfl (aJ.wrap32 (by omega) (by omega))) ?_
  refine oV (gV (r := ((aJ.fp (B.take i)).2 + ((aJ.fp (B.take i)).1 + (U5.g B (i : Int))) % 65521) % 65521) rfl rfl (by omega) (jy (by omega))) ?_
  refine cQ dm 8 rfl (by omega) ?_
  have e5 : ((aJ.fp (B.take i)).1 + (U5.g B (i : Int))) % 65521 = (aJ.fp (B.take (i + 1))).1 := by rw [aJ.o8 (by omega)]; rfl
  have e6 : ((aJ.fp (B.take i)).2 + (aJ.fp (B.take (i + 1))).1) % 65521 = (aJ.fp (B.take (i + 1))).2 := by rw [aJ.o8 (by omega)]; rfl
  rw [e5, e6]
  exact j1 (i + 1) ⟨by omega, by omega⟩ (dp ln) (sub (ar .nil) aw)
 ·refine rC dm 6 rfl ?_
  obtain rfl : i = B.length := by omega
  rw [List.take_length]
  have hs := aJ.qk B
  refine rC dm 2 rfl ?_
  refine oV (gb (r := (aJ.fp B).2 * 65536) rfl rfl (by decide) (aJ.LO (n := 16) rfl (by decide) rfl (by omega) (by omega))) ?_
  refine oV (aK rfl) ?_
  refine oV (nq (r := (aJ.fp B).2 * 65536 + (aJ.fp B).1) rfl rfl (aJ.Lz (u := (aJ.fp B).2) (n := 16) rfl (by omega) (by omega) (by omega))) ?_
  refine rO dm 4 rfl ?_
  exact ak (aC rfl) ⟨by unfold aJ.gi; rfl, rfl⟩ (sub (ar .nil) aw)
set_option maxHeartbeats 2000000 in
theorem LB (p : Option Addr) (c : Nat) (B : List Int) (R : ad) (hR : ∀ w0 h, R w0 h → aS U5 p B.length B w0 h) (hl : B.length < 500000000) (hB : aj.au B) : aG Tryz.prog 63 [.int .u32 1, .slice p B.length c] [R] (aQ fun v G => v = .int .u32 (aJ.gi B) ∧ G = [R]) := by
 refine av [(0, _), (1, _)] Tryz.func63 rfl Tryz.ntmps63 rfl rfl ?_
 intro w0 F
 refine rT dm 8 rfl ?_
 refine oV (kg (r := 1) rfl rfl rfl) ?_
 refine oV (aK rfl) ?_
 refine oV (ed (r := 0) rfl rfl (by decide) rfl) ?_
 refine rO dm 11 rfl ?_
 rw [show ((5 : Nat), Value.int .u32 1) = (5, .int .u32 (aJ.fp (B.take 0)).1) from by rw [List.take_zero, aJ.qX], show ((6 : Nat), Value.int .u32 0) = (6, .int .u32 (aJ.fp (B.take 0)).2) from by rw [List.take_zero, aJ.qX]]
 refine eb (fun (i : Nat) => [(1, .slice p B.length c), (5, .int .u32 (aJ.fp (B.take i)).1), (6, .int .u32 (aJ.fp (B.take i)).2), (7, .int .i64 (i : Int))]) (fun (i : Nat) => R :: F) (fun (i : Nat) => i ≤ B.length) (fun (i : Nat) => B.length - i) (i1 (0) ?_ (fo ln) (sub (ar .nil) aw)) ?_
 ·exact Nat.zero_le _
 intro i
 rintro hi
 refine rL dm 9 rfl ?_
 refine aN rfl (fun h15 => ?_) (fun h15 => ?_)
 ·refine rC dm 5 rfl ?_
  have hv : 0 ≤ (U5.g B (i : Int)) ∧ (U5.g B (i : Int)) < 256 := hB.get i
  have hs := aJ.qk (B.take i)
  refine rC dm 4 rfl ?_
  refine oV (xI V.bY (by exact bE hR an)) ?_
  refine oV (xL V.s5 (by exact bE hR an)) ?_
  refine oV (bg V.u5 Tryz.underlying76 rfl (aJ.wrap32 (by omega) (by omega))) ?_
  refine oV (du rfl rfl (aJ.wrap32 (by omega) (by omega))) ?_
  refine oV (gV (r := ((aJ.fp (B.take i)).1 + (U5.g B (i : Int))) % 65521) rfl rfl (by omega) (jy (by omega))) ?_
  refine rO dm 6 rfl ?_
  refine oV (du rfl rfl (aJ.wrap32 (by omega) (by omega))) ?_
  refine oV (gV (r := ((aJ.fp (B.take i)).2 + ((aJ.fp (B.take i)).1 + (U5.g B (i : Int))) % 65521) % 65521) rfl rfl (by omega) (jy (by omega))) ?_
  refine cQ dm 9 rfl (by omega) ?_
  have e5 : ((aJ.fp (B.take i)).1 + (U5.g B (i : Int))) % 65521 = (aJ.fp (B.take (i + 1))).1 := by rw [aJ.o8 (by omega)]; rfl
  have e6 : ((aJ.fp (B.take i)).2 + (aJ.fp (B.take (i + 1))).1) % 65521 = (aJ.fp (B.take (i + 1))).2 := by rw [aJ.o8 (by omega)]; rfl
  rw [e5, e6]
  exact j1 (i + 1) ⟨by omega, by omega⟩ (fo ln) (sub (ar .nil) aw)
 ·refine rC dm 6 rfl ?_
  obtain rfl : i = B.length := by omega
  rw [List.take_length]
  have hs := aJ.qk B
  refine rC dm 2 rfl ?_
  refine oV (gb (r := (aJ.fp B).2 * 65536) rfl rfl (by decide) (aJ.LO (n := 16) rfl (by decide) rfl (by omega) (by omega))) ?_
  refine oV (aK rfl) ?_
  refine oV (nq (r := (aJ.fp B).2 * 65536 + (aJ.fp B).1) rfl rfl (aJ.Lz (u := (aJ.fp B).2) (n := 16) rfl (by omega) (by omega) (by omega))) ?_
  refine rO dm 4 rfl ?_
  exact ak (aC rfl) ⟨by unfold aJ.gi; rfl, rfl⟩ (sub (ar .nil) aw)
theorem HD (p : Option Addr) (c : Nat) (B : List Int) (R : ad) (hR : ∀ w0 h, R w0 h → aS U5 p B.length B w0 h) (hl : B.length < 500000000) (hB : aj.au B) : aG Tryz.prog 135 [.slice p B.length c] [R] (aQ fun v G => v = .int .u32 (aJ.gi B) ∧ G = [R]) := by
 refine av [(0, _)] Tryz.func135 rfl Tryz.ntmps135 rfl rfl ?_
 intro w0 F
 refine rT dm 8 rfl ?_
 refine ai (Nb p c B R hR hl hB) V.QE  rfl (ar .nil) rfl ?_
 rintro _ _ ⟨rfl, rfl⟩
 refine rO dm 4 rfl ?_
 exact ak (aC rfl) ⟨rfl, rfl⟩ (sub (ar .nil) aw)
set_option maxHeartbeats 2000000 in
theorem Ca (p : Option Addr) (c : Nat) (B : List Int) (R : ad) (hR : ∀ w0 h, R w0 h → aS U5 p B.length B w0 h) (hl : 2 ≤ B.length) (hB : aj.au B) (t : Bool) (ht : t = decide (aJ.Hd (B.getD 0 0) (B.getD 1 0))) : aG Tryz.prog 118 [.slice p B.length c] [R] (aQ fun v G => v = .bool t ∧ G = [R]) := by
 refine av [(0, _)] Tryz.func118 rfl Tryz.ntmps118 rfl rfl ?_
 intro w0 F
 have hv : 0 ≤ (U5.g B 0) ∧ (U5.g B 0) < 256 := hB.get 0
 have hw : 0 ≤ (U5.g B 1) ∧ (U5.g B 1) < 256 := hB.get 1
 have ht2 : t = decide (aJ.Hd (U5.g B 0) (U5.g B 1)) := ht
 clear ht
 refine rT dm 6 rfl ?_
 refine oF V.mixed (by kernel_rfl) ?_
 refine oR (aK rfl) ?_
 refine oR (xI V.bY (by exact bE hR an)) ?_
 refine oR (xL V.s5 (by exact bE hR an)) ?_
 refine oR (bg V.u5 Tryz.underlying3 rfl wI) ?_
 refine oR (aK rfl) ?_
 refine oR (xI V.bY (by exact bE hR an)) ?_
 refine oR (xL V.s5 (by exact bE hR an)) ?_
 refine oR (bg V.u5 Tryz.underlying3 rfl wI) ?_
 refine rR dm 2 rfl ?_
 refine Rg.cW ?_
 refine bN ?_
 rcases (aJ.NT (U5.g B 0) (U5.g B 1)) with h1 | ⟨h1, h2⟩ | ⟨h1, h2, h3⟩ | ⟨h1, h2, h3, h4⟩ | ⟨h1, h2, h3, h4⟩
 ·refine rC dm 3 rfl ?_
  refine oV (kg (r := (U5.g B 0) % 16) rfl rfl (aJ.tP hv)) ?_
  refine oV (aA (az rfl rfl) (by omega)) ?_
  refine rO dm 22 rfl ?_
  (obtain rfl : t = false := ht2.trans (decide_eq_false (by unfold aJ.Hd; intro hh; omega)); exact ak (G := [R]) (aC rfl) ⟨rfl, rfl⟩ (sub (ar .nil) aw))
 ·refine rC dm 3 rfl ?_
  refine oV (kg (r := (U5.g B 0) % 16) rfl rfl (aJ.tP hv)) ?_
  refine oV (aW (az rfl rfl) (by omega)) ?_
  refine rO dm 2 rfl ?_
  refine ag rfl ?_
  refine oV (ed (r := (U5.g B 0) / 16) rfl rfl (by decide) (aJ.GN hv.1)) ?_
  refine ag rfl ?_
  refine oV (aA (eH rfl rfl) (by omega)) ?_
  refine rO dm 18 rfl ?_
  (obtain rfl : t = false := ht2.trans (decide_eq_false (by unfold aJ.Hd; intro hh; omega)); exact ak (G := [R]) (aC rfl) ⟨rfl, rfl⟩ (sub (ar .nil) aw))
 ·refine rC dm 3 rfl ?_
  refine oV (kg (r := (U5.g B 0) % 16) rfl rfl (aJ.tP hv)) ?_
  refine oV (aW (az rfl rfl) (by omega)) ?_
  refine rO dm 2 rfl ?_
  refine ag rfl ?_
  refine oV (ed (r := (U5.g B 0) / 16) rfl rfl (by decide) (aJ.GN hv.1)) ?_
  refine ag rfl ?_
  refine oV (aW (eH rfl rfl) (by omega)) ?_
  refine rO dm 3 rfl ?_
  refine ag rfl ?_
  refine oV (gb (r := (U5.g B 0) * 256) rfl rfl (by decide) (aJ.wW (n := 8) rfl (by decide) rfl (by omega) (by omega))) ?_
  refine ag rfl ?_
  refine oV (aK rfl) ?_
  refine ag rfl ?_
  refine oV (nq (r := (U5.g B 0) * 256 + (U5.g B 1)) rfl rfl (aJ.qa (u := (U5.g B 0)) (n := 8) rfl hv.1 (by omega) (by omega))) ?_
  refine ag rfl ?_
  refine oV (gV (r := ((U5.g B 0) * 256 + (U5.g B 1)) % 31) rfl rfl (by omega) (jy (by omega))) ?_
  refine ag rfl ?_
  refine oV (aA (az rfl rfl) (by omega)) ?_
  refine rO dm 10 rfl ?_
  (obtain rfl : t = false := ht2.trans (decide_eq_false (by unfold aJ.Hd; intro hh; omega)); exact ak (G := [R]) (aC rfl) ⟨rfl, rfl⟩ (sub (ar .nil) aw))
 ·refine rC dm 3 rfl ?_
  refine oV (kg (r := (U5.g B 0) % 16) rfl rfl (aJ.tP hv)) ?_
  refine oV (aW (az rfl rfl) (by omega)) ?_
  refine rO dm 2 rfl ?_
  refine ag rfl ?_
  refine oV (ed (r := (U5.g B 0) / 16) rfl rfl (by decide) (aJ.GN hv.1)) ?_
  refine ag rfl ?_
  refine oV (aW (eH rfl rfl) (by omega)) ?_
  refine rO dm 3 rfl ?_
  refine ag rfl ?_
  refine oV (gb (r := (U5.g B 0) * 256) rfl rfl (by decide) (aJ.wW (n := 8) rfl (by decide) rfl (by omega) (by omega))) ?_
  refine ag rfl ?_
  refine oV (aK rfl) ?_
  refine ag rfl ?_
  refine oV (nq (r := (U5.g B 0) * 256 + (U5.g B 1)) rfl rfl (aJ.qa (u := (U5.g B 0)) (n := 8) rfl hv.1 (by omega) (by omega))) ?_
  refine ag rfl ?_
  refine oV (gV (r := ((U5.g B 0) * 256 + (U5.g B 1)) % 31) rfl rfl (by omega) (jy (by omega))) ?_
  refine ag rfl ?_
  refine oV (aW (az rfl rfl) (by omega)) ?_
  refine rO dm 3 rfl ?_
  refine ag rfl ?_
  refine oV (kg (r := 32 * ((U5.g B 1) / 32 % 2)) rfl rfl (aJ.Gp hw)) ?_
  refine ag rfl ?_
  refine oV (aA (az rfl rfl) (by omega)) ?_
  refine rO dm 5 rfl ?_
  (obtain rfl : t = false := ht2.trans (decide_eq_false (by unfold aJ.Hd; intro hh; omega)); exact ak (G := [R]) (aC rfl) ⟨rfl, rfl⟩ (sub (ar .nil) aw))
 ·refine rC dm 3 rfl ?_
  refine oV (kg (r := (U5.g B 0) % 16) rfl rfl (aJ.tP hv)) ?_
  refine oV (aW (az rfl rfl) (by omega)) ?_
  refine rO dm 2 rfl ?_
  refine ag rfl ?_
  refine oV (ed (r := (U5.g B 0) / 16) rfl rfl (by decide) (aJ.GN hv.1)) ?_
  refine ag rfl ?_
  refine oV (aW (eH rfl rfl) (by omega)) ?_
  refine rO dm 3 rfl ?_
  refine ag rfl ?_
  refine oV (gb (r := (U5.g B 0) * 256) rfl rfl (by decide) (aJ.wW (n := 8) rfl (by decide) rfl (by omega) (by omega))) ?_
  refine ag rfl ?_
  refine oV (aK rfl) ?_
  refine ag rfl ?_
  refine oV (nq (r := (U5.g B 0) * 256 + (U5.g B 1)) rfl rfl (aJ.qa (u := (U5.g B 0)) (n := 8) rfl hv.1 (by omega) (by omega))) ?_
  refine ag rfl ?_
  refine oV (gV (r := ((U5.g B 0) * 256 + (U5.g B 1)) % 31) rfl rfl (by omega) (jy (by omega))) ?_
  refine ag rfl ?_
  refine oV (aW (az rfl rfl) (by omega)) ?_
  refine rO dm 3 rfl ?_
  refine ag rfl ?_
  refine oV (kg (r := 32 * ((U5.g B 1) / 32 % 2)) rfl rfl (aJ.Gp hw)) ?_
  refine ag rfl ?_
  refine oV (aW (az rfl rfl) (by omega)) ?_
  refine rO dm 5 rfl ?_
  (obtain rfl : t = true := ht2.trans (decide_eq_true (by unfold aJ.Hd; exact ⟨h1, h2, h3, h4⟩)); exact ak (G := [R]) (aC rfl) ⟨rfl, rfl⟩ (sub (ar .nil) aw))
set_option maxHeartbeats 2000000 in
theorem F1 (p : Option Addr) (c : Nat) (B : List Int) (R : ad) (hR : ∀ w0 h, R w0 h → aS U5 p B.length B w0 h) (hl : B.length < 500000000) (hB : aj.au B) : aG Tryz.prog 103 [.slice p B.length c] [R] (aQ fun v G => v = .string (strOfNums (aJ.kF B)) ∧ G = [R]) := by
 refine av [(0, _)] Tryz.func103 rfl Tryz.ntmps103 rfl rfl ?_
 intro w0 F
 have hn := aJ.ye B
 refine rT dm 8 rfl ?_
 refine ai (HD p c B R hR hl hB) V.P4  rfl (ar .nil) rfl ?_
 rintro _ _ ⟨rfl, rfl⟩
 refine rO dm 6 rfl ?_
 refine oV (ed (r := aJ.gi B / 2 ^ 24) rfl rfl (by decide) (aJ.Aj (n := 24) rfl (by decide))) ?_
 refine oV (bg V.oh Tryz.underlying5 rfl ((aj.ee _).trans (show (aJ.gi B / 2 ^ 24) % 256 = aJ.gi B / 16777216 from by omega))) ?_
 refine oV (aK rfl) ?_
 refine oV (ed (r := aJ.gi B / 2 ^ 16) rfl rfl (by decide) (aJ.Aj (n := 16) rfl (by decide))) ?_
 refine oV (bg V.oh Tryz.underlying5 rfl ((aj.ee _).trans (show (aJ.gi B / 2 ^ 16) % 256 = aJ.gi B / 65536 % 256 from by omega))) ?_
 refine oV (aK rfl) ?_
 refine oV (ed (r := aJ.gi B / 2 ^ 8) rfl rfl (by decide) (aJ.Aj (n := 8) rfl (by decide))) ?_
 refine oV (bg V.oh Tryz.underlying5 rfl ((aj.ee _).trans (show (aJ.gi B / 2 ^ 8) % 256 = aJ.gi B / 256 % 256 from by omega))) ?_
 refine oV (aK rfl) ?_
 refine oV (bg V.oh Tryz.underlying5 rfl ((aj.ee _).trans (show (aJ.gi B) % 256 = aJ.gi B % 256 from by omega))) ?_
 refine cV (U5) (aJ.kF B) V.bY V.z5 rfl rfl rfl rfl rfl rfl ?_
 intro zg
 refine oV (ma (T := 5) Tryz.underlying22 Tryz.underlying5 Tryz.underlying9 rfl (own an)) ?_
 refine rO dm 4 rfl ?_
 exact ak (aC rfl) ⟨rfl, rfl⟩ (sub (.cons ay .nil) cD)
end Go.Proofs.YtmaiakpjgomnpaaGreat
namespace Go.Proofs.YtmaiakpjgomnpaaGreat
open Go.Sl 
theorem eM : dU Tryz.prog ⟨[22], []⟩ = true := by kernel_rfl
attribute [local irreducible] aO.n7 ab.jW aO.df aj.au aJ.fp aJ.kF aJ.gi
section
variable {C : Ctx} {E : Env} {L : List ad} {ty : TypeId}
theorem kx {x y : Operand} {t t' : TypeId} {s u : ByteArray} {r : Bool} (hr : (s.toList == u.toList) = r) (hx : aq E x = some (.string s)) (hy : aq E y = some (.string u)) : cF C (.binOp .neq t x y t') ty E L (.bool (!r)) L :=
 dS fun d pos aft g a w ha => by
  rw [jx d pos aft g (ha.eval hx) (ha.eval hy) (by simp [eqGuard])]
  simp [binOp, Op.stringOp, Sem.run_pure, ← hr, bne]
end
theorem LH (p : Option Addr) (c n : Nat) (L : List Int) (R : ad) (hR : ∀ w0 h, R w0 h → aS U5 p n L w0 h) (hn : L.length = n) (hl : n < 500000000) (hB : aj.au L) (mo : Int) (hm : mo < 500000000) (x : List Int) (u e : Int) (hq : ab.jW L mo (x, u, e)) : aG Tryz.prog 119 [.slice p n c, .int .i64 mo] [R] (aQ fun v G => ∃ qq cq, v = .tuple #[.slice qq x.length cq, .int .i64 u, .int .i64 e] ∧ G = [Row U5 qq x.length cq x, R]) := by
 subst hn
 exact Og p c L R hR hl hB mo hm (x, u, e) hq
set_option maxHeartbeats 4000000 in
theorem LU (p : Option Addr) (c : Nat) (B : List Int) (R : ad) (hR : ∀ w0 h, R w0 h → aS U5 p B.length B w0 h) (hcap : B.length ≤ c) (hl : B.length < 500000000) (hB : aj.au B) (mo : Int) (hm : mo < 500000000) (q : List Int × Int) (hq : aJ.m7 B mo q) : aG Tryz.prog 84 [.slice p B.length c, .int .i64 mo] [R] (aQ fun v G => ∃ qq cq, v = .tuple #[.slice qq q.1.length cq, .int .i64 q.2] ∧ G = [Row U5 qq q.1.length cq q.1, R]) := by
 refine av [(0, _), (1, _)] Tryz.func84 rfl Tryz.ntmps84 rfl rfl ?_
 intro w0 F
 refine rT eM 8 rfl ?_
 rcases (hq.PT hB hm) with ⟨hb6, rfl⟩ | ⟨hb6, hhd, rfl⟩ | ⟨x, n, e, hb6, hhd, hr, hxB, hxl, hn, hws⟩
 ·refine rC eM 4 rfl ?_
  refine oV (aW (bu rfl rfl) (by omega)) ?_
  refine rO eM 13 rfl ?_
  exact ak (fD rfl rfl) ⟨none, 0, rfl, rfl⟩ (Sl.Sub.trans (ej (A := Row U5 none 0 0 []) (fun w0 => Row.nil U5 w0 _)) (sub (bF .nil) aw))
 ·refine rC eM 4 rfl ?_
  refine oV (aA (bu rfl rfl) (by omega)) ?_
  refine rO eM 7 rfl ?_
  refine ai (Ca p c B R hR (by omega) hB false (decide_eq_false hhd).symm) V.Me  rfl (ar .nil) rfl ?_
  rintro _ _ ⟨rfl, rfl⟩
  refine rO eM 14 rfl ?_
  exact ak (fD rfl rfl) ⟨none, 0, rfl, rfl⟩ (Sl.Sub.trans (ej (A := Row U5 none 0 0 []) (fun w0 => Row.nil U5 w0 _)) (sub (bF .nil) aw))
 ·refine rC eM 4 rfl ?_
  refine oV (aA (bu rfl rfl) (by omega)) ?_
  refine rO eM 7 rfl ?_
  refine ai (Ca p c B R hR (by omega) hB true (decide_eq_true hhd).symm) V.Me  rfl (ar .nil) rfl ?_
  rintro _ _ ⟨rfl, rfl⟩
  refine rO eM 9 rfl ?_
  have hB2 := aJ.eu hB 2
  have hD2 : ∀ w0 h, R w0 h → aS U5 (eo p 2 c 1) (B.length - 2) (B.drop 2) w0 h := fun w0 h hh => gW (c := U5) hR rfl 2 c (by omega) hcap w0 h hh
  refine rC eM 2 rfl ?_
  refine oV (dX 2 _ _ V.bY rfl ⟨_, rfl⟩ ⟨rfl, rfl⟩ rfl (by omega) (by omega) (by omega)) ?_
  refine oV (aK rfl) ?_
  refine ai (LH (eo p 2 c 1) (c - 2) (B.length - 2) (B.drop 2) R hD2 List.length_drop (by omega) hB2 mo hm x (n : Int) e hr) V.Qp  rfl (ar .nil) rfl ?_
  rintro _ _ ⟨q22, c22, rfl, rfl⟩
  refine rO eM 10 rfl ?_
  have hBn := aJ.eu hB (2 + n)
  have hDn : ∀ w0 h, R w0 h → aS U5 (eo p (2 + n) c 1) (B.length - (2 + n)) (B.drop (2 + n)) w0 h := fun w0 h hh => gW (c := U5) hR rfl (2 + n) c (by omega) hcap w0 h hh
  refine rC eM 3 rfl ?_
  refine oV (cK (v := .int .i64 ((2 + n : Nat) : Int)) (du rfl rfl wI) (by congr 1)) ?_
  refine oV (dX (2 + n) B.length c V.bY rfl ⟨_, rfl⟩ ⟨rfl, rfl⟩ rfl (by omega) (by omega) (by omega)) ?_
  refine rO eM 5 rfl ?_
  rcases (hws) with ⟨he, rfl⟩ | ⟨he, h4, rfl⟩ | ⟨he, h4, rfl⟩ | ⟨he, h4, hne, rfl⟩ | ⟨he, h4, heq, rfl⟩
  ·refine rC eM 3 rfl ?_
   refine oV (aW (cx rfl rfl) he) ?_
   refine rO eM 14 rfl ?_
   exact ak (fD rfl rfl) ⟨none, 0, rfl, rfl⟩ (Sl.Sub.trans (ej (A := Row U5 none 0 0 []) (fun w0 => Row.nil U5 w0 _)) (sub (ar (.cons ay .nil)) cD))
  ·refine rC eM 3 rfl ?_
   refine oV (aA (cx rfl rfl) (fun h => h he)) ?_
   refine rO eM 8 rfl ?_
   refine oV (aW (bu rfl rfl) (by omega)) ?_
   refine rO eM 13 rfl ?_
   exact ak (fD rfl rfl) ⟨none, 0, rfl, rfl⟩ (Sl.Sub.trans (ej (A := Row U5 none 0 0 []) (fun w0 => Row.nil U5 w0 _)) (sub (ar (.cons ay .nil)) cD))
  ·refine rC eM 3 rfl ?_
   refine oV (aA (cx rfl rfl) (fun h => h he)) ?_
   refine rO eM 8 rfl ?_
   refine oV (aA (bu rfl rfl) (by omega)) ?_
   refine rO eM 8 rfl ?_
   refine oV (aW (bd rfl rfl) (by omega)) ?_
   refine rO eM 13 rfl ?_
   exact ak (fD rfl rfl) ⟨none, 0, rfl, rfl⟩ (Sl.Sub.trans (ej (A := Row U5 none 0 0 []) (fun w0 => Row.nil U5 w0 _)) (sub (ar (.cons ay .nil)) cD))
  ·refine rC eM 3 rfl ?_
   refine oV (aA (cx rfl rfl) (fun h => h he)) ?_
   refine rO eM 8 rfl ?_
   refine oV (aA (bu rfl rfl) (by omega)) ?_
   refine rO eM 8 rfl ?_
   refine oV (aA (bd rfl rfl) (by omega)) ?_
   refine rO eM 5 rfl ?_
   refine wN [pz 0 [] [9], pz 1 [0] [], pz 0 [] [6], pz 4 [2] [], pz 15 [1, 3] [], pz 31 [4] []] [⟨fun y => Row U5 q22 x.length c22 x, none, some 3, []⟩, ⟨fun y => R, none, none, [1]⟩, ⟨fun y => Row U5 q22 x.length c22 x, some 3, none, []⟩] F V.mixed ?_
   refine nM ?_
   refine nR (fun y FF hA => ma (T := 5) Tryz.underlying22 Tryz.underlying5 Tryz.underlying9 rfl (by exact bE hDn an)) ?_
   refine nM ?_
   refine nE (fun y FF hA => bO (Post := [Row U5 q22 x.length c22 x]) (F1 q22 c22 x (Row U5 q22 x.length c22 x) (fun _ _ hh => hh.rd) (by omega) hxB) V.Kp rfl (ar .nil) (fun v G h => by rcases h with ⟨rfl, rfl⟩; exact ⟨rfl, .refl _⟩)) ?_
   refine nV (fun y hA L => cK (v := .bool true) (kx (sP (aJ.aY hBn) (aJ.aY (aJ.n5 x)) hne) rfl rfl) rfl) ?_
   refine nA ?_
   refine aX ?_
   intro y hA
   clear hA
   refine bN ?_
   refine cu _ (.cons (d := 6) rfl (.cons (d := 42) rfl (.nil _))) ?_
   refine bS (M := R :: Row U5 q22 x.length c22 x :: F) (fun _ _ h => h) ?_
   refine rC eM 10 rfl ?_
   exact ak (fD rfl rfl) ⟨none, 0, rfl, rfl⟩ (Sl.Sub.trans (ej (A := Row U5 none 0 0 []) (fun w0 => Row.nil U5 w0 _)) (sub (bF .nil) cD))
  ·refine rC eM 3 rfl ?_
   refine oV (aA (cx rfl rfl) (fun h => h he)) ?_
   refine rO eM 8 rfl ?_
   refine oV (aA (bu rfl rfl) (by omega)) ?_
   refine rO eM 8 rfl ?_
   refine oV (aA (bd rfl rfl) (by omega)) ?_
   refine rO eM 5 rfl ?_
   refine wN [pz 0 [] [9], pz 1 [0] [], pz 0 [] [6], pz 4 [2] [], pz 15 [1, 3] [], pz 31 [4] []] [⟨fun y => Row U5 q22 x.length c22 x, none, some 3, []⟩, ⟨fun y => R, none, none, [1]⟩, ⟨fun y => Row U5 q22 x.length c22 x, some 3, none, []⟩] F V.mixed ?_
   refine nM ?_
   refine nR (fun y FF hA => ma (T := 5) Tryz.underlying22 Tryz.underlying5 Tryz.underlying9 rfl (by exact bE hDn an)) ?_
   refine nM ?_
   refine nE (fun y FF hA => bO (Post := [Row U5 q22 x.length c22 x]) (F1 q22 c22 x (Row U5 q22 x.length c22 x) (fun _ _ hh => hh.rd) (by omega) hxB) V.Kp rfl (ar .nil) (fun v G h => by rcases h with ⟨rfl, rfl⟩; exact ⟨rfl, .refl _⟩)) ?_
   refine nV (fun y hA L => cK (v := .bool false) (kx (r := true) (by rw [heq]; exact beq_self_eq_true _) rfl rfl) rfl) ?_
   refine nA ?_
   refine aX ?_
   intro y hA
   clear hA
   refine bN ?_
   refine cu _ (.cons (d := 6) rfl (.cons (d := 42) rfl (.nil _))) ?_
   refine bS (M := R :: Row U5 q22 x.length c22 x :: F) (fun _ _ h => h) ?_
   refine rC eM 12 rfl ?_
   exact ak (fD rfl rfl) ⟨q22, c22, rfl, rfl⟩ (sub (.cons ay (ar .nil)) aw)
end Go.Proofs.YtmaiakpjgomnpaaGreat
namespace Go.Proofs.YtmaiakpjgomnpaaGreat
open Go.Sl
theorem V.F4 : jT Tryz.prog 173 = some (256, 76, 1) := by kernel_rfl
theorem V.Kj : aH Tryz.prog 111 = true := by kernel_rfl
theorem V.Jw : aH Tryz.prog 143 = true := by kernel_rfl
theorem V.Pb : aH Tryz.prog 96 = true := by kernel_rfl
theorem V.Nk : cy Tryz.prog 175 0 = some 0 := by kernel_rfl
theorem V.Oq : fO Tryz.prog 175 = some [(0, 256)] := by kernel_rfl
theorem V.O2 : dq Tryz.prog 76 = true := by kernel_rfl
theorem V.z175 : dH Tryz.prog 175 = some (List.replicate 256 (.int .u32 0)) := by kernel_rfl
end Go.Proofs.YtmaiakpjgomnpaaGreat
namespace Go.Proofs.YtmaiakpjgomnpaaGreat
open Go.Sl 
theorem cR : dU Tryz.prog ⟨[22], [(175, 0, 0)]⟩ = true := by kernel_rfl
attribute [local irreducible] aj.au aa.gR aa.gL aa.eE aa.gh aa.eU aa.iC
set_option maxHeartbeats 1000000 in
theorem NO (x : Int) (hx : 0 ≤ x ∧ x < 4294967296) : aG Tryz.prog 111 [.int .u32 x] [] (aQ fun v G => v = .int .u32 (aa.gL x) ∧ G = []) := by
 refine av [(0, _)] Tryz.func111 rfl Tryz.ntmps111 rfl rfl ?_
 intro w0 F
 refine rT cR 12 rfl ?_
 rw [show ((0 : Nat), Value.int .u32 x) = (0, .int .u32 (aa.gR 0 x)) from by rw [aa.Gh hx.1]]
 refine eb (fun (k : Nat) => [(0, .int .u32 (aa.gR k x)), (3, .int .i64 (k : Int))]) (fun (k : Nat) => F) (fun (k : Nat) => k ≤ 8) (fun (k : Nat) => 8 - k) (i1 (0) ?_ (kG ln) (sub .nil aw)) ?_
 ·exact Nat.zero_le _
 intro k
 rintro hk
 have hs := aa.Dc hx k
 refine rL cR 6 rfl ?_
 refine aN rfl (fun h4 => ?_) (fun h4 => ?_)
 ·refine rC cR 7 rfl ?_
  refine oV (kg (r := (aa.gR k x) % 2) rfl rfl (aa.vB hs)) ?_
  refine rO cR 3 rfl ?_
  refine aN rfl (fun h7 => ?_) (fun h7 => ?_)
  ·refine rC cR 2 rfl ?_
   refine oV (ed (r := (aa.gR k x) / 2) rfl rfl (by decide) (aa.mc (n := 1) rfl (by decide) rfl)) ?_
   refine oV (pn (r := aa.eE ((aa.gR k x) / 2) 3988292384) rfl rfl (aa.vU (by omega) (by decide))) ?_
   refine cQ cR 8 rfl (by omega) ?_
   (rw [← aa.zF (by assumption)]; exact j1 (k + 1) ⟨by omega, by omega⟩ (kG ln) (sub .nil aw))
  ·refine rC cR 2 rfl ?_
   refine oV (ed (r := (aa.gR k x) / 2) rfl rfl (by decide) (aa.mc (n := 1) rfl (by decide) rfl)) ?_
   refine cQ cR 8 rfl (by omega) ?_
   (rw [← aa.xN (by assumption)]; exact j1 (k + 1) ⟨by omega, by omega⟩ (kG ln) (sub .nil aw))
 ·refine rC cR 6 rfl ?_
  obtain rfl : k = 8 := by omega
  rw [aa.GQ]
  refine rC cR 6 rfl ?_
  exact ak (aC rfl) ⟨rfl, rfl⟩ (sub .nil aw)
set_option maxHeartbeats 4000000 in
theorem NS  : aG Tryz.prog 78 [] [] (aQ fun v G => ∃ b, v = .pointer (some ⟨b, 0, none⟩) ∧ G = [ao b 175 (CA [] .u32 aa.eU [])]) := by
 refine av [] Tryz.func78 rfl Tryz.ntmps78 rfl rfl ?_
 intro w0 F
 refine rT cR 7 rfl ?_
 refine oV (cB V.Oq V.z175 rfl (cs := ints .u32 (List.replicate 256 0)) rfl) ?_
 refine eN rfl (wc _ _) rfl ?_
 intro b4
 refine rO cR 10 rfl ?_
 rw [← aa.Mg]
 refine eb (fun (i : Nat) => [(1, .pointer (some ⟨b4, 0, none⟩)), (5, .int .i64 (i : Int))]) (fun (i : Nat) => ao b4 175 (CA [] .u32 (aa.iC i) []) :: F) (fun (i : Nat) => i ≤ 256) (fun (i : Nat) => 256 - i) (i1 (0) ?_ (kG ln) (sub (ar .nil) aw)) ?_
 ·exact Nat.zero_le _
 intro i
 rintro hi
 have hl := aa.wm (i := i) (by omega)
 refine rL cR 6 rfl ?_
 refine aN rfl (fun h6 => ?_) (fun h6 => ?_)
 ·refine rC cR 10 rfl ?_
  refine wN [pz 0 [] [1], pz 0 [] [2], pz 0 [] [2], pz 4 [2] [], pz 12 [3] [], pz 1 [0] [], pz 33 [5] [], pz 127 [6, 1] [], pz 255 [7, 4] []] [⟨fun y => ao b4 175 (CA [] .u32 (aa.iC i) []), none, some 8, []⟩, ⟨fun y => ao b4 175 (CA [] .u32 ((aa.iC i).set (((i : Int)).toNat) (aa.gL (i : Int))) []), some 8, none, []⟩] F V.mixed ?_
  iterate 3 refine nM ?_
  refine nV (fun y hA L => bg V.u3 Tryz.underlying76 rfl (aJ.wrap32 (by omega) (by omega))) ?_
  refine nE (fun y FF hA => bO (Post := []) (NO (i : Int) (by omega)) V.Kj rfl .nil (fun v G h => by rcases h with ⟨rfl, rfl⟩; exact ⟨rfl, .refl _⟩)) ?_
  refine nN ?_
  refine nG V.Nk ?_
  refine nV (fun y hA L => im i rfl V.F4 rfl rfl (by omega)) ?_
  refine nE (fun y FF hA => dC (zm (i : Int) V.O2 rfl rfl (by exact cY) (by (simp only [List.length_cons, List.length_nil]; omega)) (by omega) (by omega)) ⟨rfl, .refl _⟩) ?_
  refine aX ?_
  intro y hA
  clear hA
  show lL _ _ _ _ (ao b4 175 (CA [] .u32 ((aa.iC i).set (((i : Int)).toNat) (aa.gL (i : Int))) []) :: F)
  refine kC ?_
  refine bN ?_
  refine bK ?_
  refine oV (du rfl rfl wI) ?_
  refine oV (aK rfl) ?_
  refine cW ?_
  rw [show List.set (aa.iC i) ((i : Int)).toNat (aa.gL (i : Int)) = aa.iC (i + 1) from aa.D7 (by omega)]
  refine j1 (i + 1) ?_ (kG ln) (sub (ar .nil) aw)
  exact ⟨by omega, by omega⟩
 ·refine rC cR 6 rfl ?_
  obtain rfl : i = 256 := by omega
  rw [aa.Ht]
  refine rC cR 6 rfl ?_
  exact ak (aC rfl) ⟨_, rfl, rfl⟩ (sub (ar .nil) aw)
set_option maxHeartbeats 4000000 in
theorem CW (bt : Nat) (p : Option Addr) (c : Nat) (B : List Int) (R : ad) (hR : ∀ w0 h, R w0 h → aS U5 p B.length B w0 h) (hl : B.length < 500000000) (hB : aj.au B) (s : Int) (hs0 : 0 ≤ s ∧ s < 4294967296) : aG Tryz.prog 143 [.pointer (some ⟨bt, 0, none⟩), .int .u32 s, .slice p B.length c] [ao bt 175 (CA [] .u32 aa.eU []), R] (aQ fun v G => v = .int .u32 (aa.qB s B) ∧ G = [ao bt 175 (CA [] .u32 aa.eU []), R]) := by
 refine av [(0, _), (1, _), (2, _)] Tryz.func143 rfl Tryz.ntmps143 rfl rfl ?_
 intro w0 F
 have htl := aa.I7
 refine rT cR 9 rfl ?_
 refine oV (cK (v := .bool false) (iU Tryz.underlying131 rfl rfl) rfl) ?_
 refine rO cR 8 rfl ?_
 refine oV (tn (r := 4294967295 - s) rfl rfl (aa.vF (by omega))) ?_
 refine rO cR 12 rfl ?_
 rw [show ((1 : Nat), Value.int .u32 (4294967295 - s)) = (1, .int .u32 (aa.gh (4294967295 - s) (B.take 0))) from by rw [List.take_zero]; unfold aa.gh; rfl]
 refine eb (fun (i : Nat) => [(0, .pointer (some ⟨bt, 0, none⟩)), (1, .int .u32 (aa.gh (4294967295 - s) (B.take i))), (13, .slice p B.length c), (14, .int .i64 (B.length : Int)), (15, .int .i64 (i : Int))]) (fun (i : Nat) => ao bt 175 (CA [] .u32 aa.eU []) :: R :: F) (fun (i : Nat) => i ≤ B.length) (fun (i : Nat) => B.length - i) (i1 (0) ?_ (dp ln) (sub (bF .nil) aw)) ?_
 ·exact Nat.zero_le _
 intro i
 rintro hi
 refine rL cR 6 rfl ?_
 refine aN rfl (fun h16 => ?_) (fun h16 => ?_)
 ·refine rC cR 6 rfl ?_
  refine oV (xI V.bY (by exact bE hR bW)) ?_
  refine oV (xL V.s5 (by exact bE hR bW)) ?_
  refine rO cR 3 rfl ?_
  have hv : 0 ≤ (U5.g B (i : Int)) ∧ (U5.g B (i : Int)) < 256 := hB.get i
  have hs := aa.oe (l := B.take i) (s := (4294967295 - s)) (aa.fL hB i) (by omega)
  have hix := aa.LG (a := (aa.gh (4294967295 - s) (B.take i)) % 256) (b := (U5.g B (i : Int))) (by omega) hv
  have hrw := aa.yH (x := (aa.eE ((aa.gh (4294967295 - s) (B.take i)) % 256) (U5.g B (i : Int)))) (by omega)
  refine rC cR 3 rfl ?_
  refine oV (bg V.oh Tryz.underlying5 rfl (aa.ee _)) ?_
  refine oV (aK rfl) ?_
  refine oV (pn (r := (aa.eE ((aa.gh (4294967295 - s) (B.take i)) % 256) (U5.g B (i : Int)))) rfl rfl (aa.QC (by omega) hv)) ?_
  refine rO cR 2 rfl ?_
  refine oV (im (((aa.eE ((aa.gh (4294967295 - s) (B.take i)) % 256) (U5.g B (i : Int)))).toNat) (by omega) V.F4 rfl rfl (by omega)) ?_
  refine oV (nj (aa.eE ((aa.gh (4294967295 - s) (B.take i)) % 256) (U5.g B (i : Int))) V.O2 rfl an (by (simp only [List.length_cons, List.length_nil]; omega)) (by omega) (by omega)) ?_
  rw [aa.EO hix]
  refine oV (aK rfl) ?_
  refine oV (ed (r := (aa.gh (4294967295 - s) (B.take i)) / 256) rfl rfl (by decide) (aa.mc (n := 8) rfl (by decide) rfl)) ?_
  refine oV (pn (r := aa.eE (aa.gL (aa.eE ((aa.gh (4294967295 - s) (B.take i)) % 256) (U5.g B (i : Int)))) ((aa.gh (4294967295 - s) (B.take i)) / 256)) rfl rfl (aa.vU hrw (by omega))) ?_
  refine cQ cR 8 rfl (by omega) ?_
  have ht := aa.xG (l := B) (s := (4294967295 - s)) (i := i) (by omega)
  rw [show B.getD i 0 = (U5.g B (i : Int)) from rfl] at ht
  rw [aa.BH hs.1 hv] at ht
  rw [← ht]
  exact j1 (i + 1) ⟨by omega, by omega⟩ (dp ln) (sub (bF .nil) aw)
 ·refine rC cR 6 rfl ?_
  obtain rfl : i = B.length := by omega
  rw [List.take_length]
  have hs := aa.oe (l := B) (s := (4294967295 - s)) hB (by omega)
  refine rC cR 2 rfl ?_
  refine oV (tn (r := 4294967295 - (aa.gh (4294967295 - s) B)) rfl rfl (aa.vF (by omega))) ?_
  refine rO cR 4 rfl ?_
  exact ak (aC rfl) ⟨by unfold aa.qB; rfl, rfl⟩ (sub (bF .nil) aw)
set_option maxHeartbeats 4000000 in
theorem Hf (p : Option Addr) (c : Nat) (B : List Int) (R : ad) (hR : ∀ w0 h, R w0 h → aS U5 p B.length B w0 h) (hl : B.length < 500000000) (hB : aj.au B) (s : Int) (hs0 : 0 ≤ s ∧ s < 4294967296) : aG Tryz.prog 96 [.int .u32 s, .slice p B.length c] [R] (aQ fun v G => v = .int .u32 (aa.qB s B) ∧ G = [R]) := by
 refine av [(0, _), (1, _)] Tryz.func96 rfl Tryz.ntmps96 rfl rfl ?_
 intro w0 F
 refine rT cR 8 rfl ?_
 refine oV (tn (r := 4294967295 - s) rfl rfl (aa.vF (by omega))) ?_
 refine rO cR 10 rfl ?_
 rw [show ((0 : Nat), Value.int .u32 (4294967295 - s)) = (0, .int .u32 (aa.gh (4294967295 - s) (B.take 0))) from by rw [List.take_zero]; unfold aa.gh; rfl]
 refine eb (fun (i : Nat) => [(0, .int .u32 (aa.gh (4294967295 - s) (B.take i))), (1, .slice p B.length c), (5, .int .i64 (i : Int))]) (fun (i : Nat) => R :: F) (fun (i : Nat) => i ≤ B.length) (fun (i : Nat) => B.length - i) (i1 (0) ?_ (js ln) (sub (ar .nil) aw)) ?_
 ·exact Nat.zero_le _
 intro i
 rintro hi
 refine rL cR 9 rfl ?_
 refine aN rfl (fun h13 => ?_) (fun h13 => ?_)
 ·refine rC cR 5 rfl ?_
  have hv : 0 ≤ (U5.g B (i : Int)) ∧ (U5.g B (i : Int)) < 256 := hB.get i
  have hs := aa.oe (l := B.take i) (s := (4294967295 - s)) (aa.fL hB i) (by omega)
  refine rC cR 4 rfl ?_
  refine oV (xI V.bY (by exact bE hR an)) ?_
  refine oV (xL V.s5 (by exact bE hR an)) ?_
  refine oV (bg V.u5 Tryz.underlying76 rfl (aJ.wrap32 (by omega) (by omega))) ?_
  refine oV (pn (r := (aa.eE (aa.gh (4294967295 - s) (B.take i)) (U5.g B (i : Int)))) rfl rfl (aa.vU hs (by omega))) ?_
  refine rO cR 4 rfl ?_
  have hxc := aa.Jl (a := (aa.gh (4294967295 - s) (B.take i))) (b := (U5.g B (i : Int))) hs (by omega)
  refine rC cR 5 rfl ?_
  rw [show ((0 : Nat), Value.int .u32 (aa.eE (aa.gh (4294967295 - s) (B.take i)) (U5.g B (i : Int)))) = (0, .int .u32 (aa.gR 0 (aa.eE (aa.gh (4294967295 - s) (B.take i)) (U5.g B (i : Int))))) from by rw [aa.Gh hxc.1]]
  refine eb (fun (k : Nat) => [(0, .int .u32 (aa.gR k (aa.eE (aa.gh (4294967295 - s) (B.take i)) (U5.g B (i : Int))))), (1, .slice p B.length c), (5, .int .i64 (i : Int)), (6, .int .i64 (k : Int))]) (fun (k : Nat) => R :: F) (fun (k : Nat) => k ≤ 8) (fun (k : Nat) => 8 - k) (i1 (0) ?_ (fo ln) (sub (ar .nil) aw)) ?_
  ·exact Nat.zero_le _
  intro k
  rintro hk
  refine rL cR 7 rfl ?_
  refine aN rfl (fun h24 => ?_) (fun h24 => ?_)
  ·refine rC cR 5 rfl ?_
   have hk2 := aa.Dc hxc k
   refine rC cR 2 rfl ?_
   refine oV (kg (r := (aa.gR k (aa.eE (aa.gh (4294967295 - s) (B.take i)) (U5.g B (i : Int)))) % 2) rfl rfl (aa.vB hk2)) ?_
   refine rO cR 6 rfl ?_
   refine oV (ed (r := (aa.gR k (aa.eE (aa.gh (4294967295 - s) (B.take i)) (U5.g B (i : Int)))) / 2) rfl rfl (by decide) (aa.mc (n := 1) rfl (by decide) rfl)) ?_
   refine rO cR 9 rfl ?_
   refine aN rfl (fun h32 => ?_) (fun h32 => ?_)
   ·refine rC cR 2 rfl ?_
    refine oV (pn (r := aa.eE ((aa.gR k (aa.eE (aa.gh (4294967295 - s) (B.take i)) (U5.g B (i : Int)))) / 2) 3988292384) rfl rfl (aa.vU (by omega) (by decide))) ?_
    refine cQ cR 9 rfl (by omega) ?_
    (rw [← aa.zF (by assumption)]; exact j1 (k + 1) ⟨by omega, by omega⟩ (fo ln) (sub (ar .nil) aw))
   ·refine fH cR 8 rfl (by omega) ?_
    (rw [← aa.xN (by assumption)]; exact j1 (k + 1) ⟨by omega, by omega⟩ (fo ln) (sub (ar .nil) aw))
  ·refine rC cR 6 rfl ?_
   obtain rfl : k = 8 := by omega
   refine fH cR 5 rfl (by omega) ?_
   have ht := aa.xG (l := B) (s := (4294967295 - s)) (i := i) (by omega)
   rw [show B.getD i 0 = (U5.g B (i : Int)) from rfl] at ht
   rw [aa.GQ, ← ht]
   exact j1 (i + 1) ⟨by omega, by omega⟩ (js ln) (sub (ar .nil) aw)
 ·refine rC cR 6 rfl ?_
  obtain rfl : i = B.length := by omega
  rw [List.take_length]
  have hs := aa.oe (l := B) (s := (4294967295 - s)) hB (by omega)
  refine rC cR 2 rfl ?_
  refine oV (tn (r := 4294967295 - (aa.gh (4294967295 - s) B)) rfl rfl (aa.vF (by omega))) ?_
  refine rO cR 4 rfl ?_
  exact ak (aC rfl) ⟨by unfold aa.qB; rfl, rfl⟩ (sub (ar .nil) aw)
set_option maxHeartbeats 2000000 in
theorem HG (bt : Nat) (kk : List Int) (hk : aj.au kk) (hkl : kk.length < 500000000) (p : Option Addr) (c : Nat) (B : List Int) (R : ad) (hR : ∀ w0 h, R w0 h → aS U5 p B.length B w0 h) (hl : B.length < 500000000) (hB : aj.au B) : aG Tryz.prog 109 [.pointer (some ⟨bt, 0, none⟩), .string (strOfNums kk), .slice p B.length c] [ao bt 175 (CA [] .u32 aa.eU []), R] (aQ fun v G => v = .int .u32 (aa.ic kk B) ∧ G = [ao bt 175 (CA [] .u32 aa.eU []), R]) := by
 refine av [(0, _), (1, _), (2, _)] Tryz.func109 rfl Tryz.ntmps109 rfl rfl ?_
 intro w0 F
 have hm := aa.tY (s := 0) (by decide) hk
 refine rT cR 10 rfl ?_
 refine xS Tryz.underlying9 Tryz.underlying22 Tryz.underlying5 rfl (aa.aY hk) rfl ?_
 intro b10 c10
 refine ai (CW bt (some ⟨b10, 0, none⟩) c10 kk (aS U5 (some ⟨b10, 0, none⟩) kk.length kk) (fun _ _ hh => hh) hkl hk 0 (by decide)) V.Jw  rfl (.cons ay (ar .nil)) rfl ?_
 rintro _ _ ⟨rfl, rfl⟩
 refine oV (aK rfl) ?_
 refine ai (CW bt p c B R hR hl hB (aa.qB 0 kk) hm) V.Jw  rfl (ar (.cons ay .nil)) rfl ?_
 rintro _ _ ⟨rfl, rfl⟩
 refine rO cR 4 rfl ?_
 exact ak (aC rfl) ⟨by unfold aa.ic; rfl, rfl⟩ (sub (bF .nil) cD)
set_option maxHeartbeats 2000000 in
theorem IZ (kk : List Int) (hk : aj.au kk) (hkl : kk.length < 500000000) (p : Option Addr) (c : Nat) (B : List Int) (R : ad) (hR : ∀ w0 h, R w0 h → aS U5 p B.length B w0 h) (hl : B.length < 500000000) (hB : aj.au B) : aG Tryz.prog 66 [.string (strOfNums kk), .slice p B.length c] [R] (aQ fun v G => v = .int .u32 (aa.ic kk B) ∧ G = [R]) := by
 refine av [(0, _), (1, _)] Tryz.func66 rfl Tryz.ntmps66 rfl rfl ?_
 intro w0 F
 have hm := aa.tY (s := 0) (by decide) hk
 refine rT cR 8 rfl ?_
 refine xS Tryz.underlying9 Tryz.underlying22 Tryz.underlying5 rfl (aa.aY hk) rfl ?_
 intro b6 c6
 refine ai (Hf (some ⟨b6, 0, none⟩) c6 kk (aS U5 (some ⟨b6, 0, none⟩) kk.length kk) (fun _ _ hh => hh) hkl hk 0 (by decide)) V.Pb  rfl (ar .nil) rfl ?_
 rintro _ _ ⟨rfl, rfl⟩
 refine oV (aK rfl) ?_
 refine ai (Hf p c B R hR hl hB (aa.qB 0 kk) hm) V.Pb  rfl (.cons ay .nil) rfl ?_
 rintro _ _ ⟨rfl, rfl⟩
 refine rO cR 4 rfl ?_
 exact ak (aC rfl) ⟨by unfold aa.ic; rfl, rfl⟩ (sub (ar .nil) cD)
end Go.Proofs.YtmaiakpjgomnpaaGreat
namespace Go.Proofs.YtmaiakpjgomnpaaGreat
open Go.Sl
theorem V.LZ : aH Tryz.prog 142 = true := by kernel_rfl
end Go.Proofs.YtmaiakpjgomnpaaGreat
namespace Go.Proofs.YtmaiakpjgomnpaaGreat
open Go.Sl 
theorem dL : dU Tryz.prog ⟨[22], []⟩ = true := by kernel_rfl
attribute [local irreducible] aj.au aa.gR aa.gL aa.eE aa.gh aa.eU aa.iC
theorem F9 {l m : List Int} {t : Bool} (hl : ∀ x ∈ l, 0 ≤ x ∧ x < 256) (hm : ∀ x ∈ m, 0 ≤ x ∧ x < 256) (ht : t = decide (l = m)) : ((strOfNums l).toList == (strOfNums m).toList) = t := by
 by_cases h : l = m
 ·rw [ht, decide_eq_true h, h]; exact beq_self_eq_true _
 ·rw [ht, decide_eq_false h]; exact sP hl hm h
theorem fe {C : Ctx} {E : Env} {L : List ad} {ty : TypeId} {x y : Operand} {t t' : TypeId} {l m : List Int} {r : Bool} (hl : ∀ x ∈ l, 0 ≤ x ∧ x < 256) (hm : ∀ x ∈ m, 0 ≤ x ∧ x < 256) (hx : aq E x = some (.string (strOfNums l))) (hy : aq E y = some (.string (strOfNums m))) (ht : r = decide (l = m)) : cF C (.binOp .eql t x y t') ty E L (.bool r) L := GH hx hy (F9 hl hm ht)
theorem w9 (x : Int) (hx : 0 ≤ x ∧ x < 256) (t : Bool) (ht : t = decide (aa.kI x)) : aG Tryz.prog 142 [.int .u8 x] [] (aQ fun v G => v = .bool t ∧ G = []) := by
 refine av [(0, _)] Tryz.func142 rfl Tryz.ntmps142 rfl rfl ?_
 intro w0 F
 refine rT dL 5 rfl ?_
 rcases (aa.Np x) with ⟨h1, h2⟩ | ⟨h1, h2⟩ | ⟨h1, h2, h3⟩ | ⟨h1, h2, h3⟩ | ⟨h1, h2⟩
 ·refine rC dL 3 rfl ?_
  refine oV (aW (ft rfl rfl) (by omega)) ?_
  refine rO dL 2 rfl ?_
  refine ag rfl ?_
  refine oV (aW (eH rfl rfl) (by omega)) ?_
  refine rO dL 13 rfl ?_
  (obtain rfl : t = true := ht.trans (decide_eq_true (by unfold aa.kI; omega)); exact ak (G := []) (aC rfl) ⟨rfl, rfl⟩ (sub .nil aw))
 ·refine rC dL 3 rfl ?_
  refine oV (aW (ft rfl rfl) (by omega)) ?_
  refine rO dL 2 rfl ?_
  refine ag rfl ?_
  refine oV (aA (eH rfl rfl) (by omega)) ?_
  refine rO dL 3 rfl ?_
  refine ag rfl ?_
  refine oV (aW (ft rfl rfl) (by omega)) ?_
  refine rO dL 2 rfl ?_
  refine ag rfl ?_
  refine oV (aA (eH rfl rfl) (by omega)) ?_
  refine rO dL 6 rfl ?_
  (obtain rfl : t = false := ht.trans (decide_eq_false (by unfold aa.kI; omega)); exact ak (G := []) (aC rfl) ⟨rfl, rfl⟩ (sub .nil aw))
 ·refine rC dL 3 rfl ?_
  refine oV (aA (ft rfl rfl) (by omega)) ?_
  refine rO dL 6 rfl ?_
  refine ag rfl ?_
  refine oV (aW (ft rfl rfl) (by omega)) ?_
  refine rO dL 2 rfl ?_
  refine ag rfl ?_
  refine oV (aW (eH rfl rfl) (by omega)) ?_
  refine rO dL 6 rfl ?_
  (obtain rfl : t = true := ht.trans (decide_eq_true (by unfold aa.kI; omega)); exact ak (G := []) (aC rfl) ⟨rfl, rfl⟩ (sub .nil aw))
 ·refine rC dL 3 rfl ?_
  refine oV (aA (ft rfl rfl) (by omega)) ?_
  refine rO dL 6 rfl ?_
  refine ag rfl ?_
  refine oV (aW (ft rfl rfl) (by omega)) ?_
  refine rO dL 2 rfl ?_
  refine ag rfl ?_
  refine oV (aA (eH rfl rfl) (by omega)) ?_
  refine rO dL 6 rfl ?_
  (obtain rfl : t = false := ht.trans (decide_eq_false (by unfold aa.kI; omega)); exact ak (G := []) (aC rfl) ⟨rfl, rfl⟩ (sub .nil aw))
 ·refine rC dL 3 rfl ?_
  refine oV (aA (ft rfl rfl) (by omega)) ?_
  refine rO dL 6 rfl ?_
  refine ag rfl ?_
  refine oV (aA (ft rfl rfl) (by omega)) ?_
  refine rO dL 9 rfl ?_
  (obtain rfl : t = false := ht.trans (decide_eq_false (by unfold aa.kI; omega)); exact ak (G := []) (aC rfl) ⟨rfl, rfl⟩ (sub .nil aw))
set_option maxHeartbeats 1000000 in
theorem kB (kk : List Int) (hk : aj.au kk) (hkl : kk.length < 500000000) (t : Bool) (ht : t = decide (aa.eh kk)) : aG Tryz.prog 107 [.string (strOfNums kk)] [] (aQ fun v G => v = .bool t ∧ G = []) := by
 refine av [(0, _)] Tryz.func107 rfl Tryz.ntmps107 rfl rfl ?_
 intro w0 F
 refine rT dL 9 rfl ?_
 refine oV (tq Tryz.underlying9 rfl (jm kk)) ?_
 refine rO dL 4 rfl ?_
 refine eb (fun (i : Nat) => [(0, .string (strOfNums kk)), (5, .int .i64 (kk.length : Int)), (6, .int .i64 (i : Int))]) (fun (i : Nat) => F) (fun (i : Nat) => i ≤ kk.length ∧ ∀ j, j < i → aa.kI (kk.getD j 0)) (fun (i : Nat) => kk.length - i) (i1 (0) ?_ (js ln) (sub .nil aw)) ?_
 ·exact ⟨Nat.zero_le _, fun j hj => by omega⟩
 intro i
 rintro ⟨hi, hall⟩
 refine rL dL 6 rfl ?_
 refine aN rfl (fun h7 => ?_) (fun h7 => ?_)
 ·refine rC dL 10 rfl ?_
  rcases (Classical.em (aa.kI (kk.getD i 0))) with hl1 | hl1
  ·refine rC dL 4 rfl ?_
   refine oV (qY i Tryz.underlying9 rfl rfl (aa.aY hk) rfl (by omega)) ?_
   refine ai (w9 (kk.getD i 0) (hk.get i) true (decide_eq_true hl1).symm) V.LZ  rfl .nil rfl ?_
   rintro _ _ ⟨rfl, rfl⟩
   refine cQ dL 11 rfl (by omega) ?_
   refine j1 (i + 1) ?_ (js ln) (sub .nil aw)
   exact ⟨⟨by omega, fun j hj => (Nat.lt_succ_iff_lt_or_eq.1 hj).elim (hall j) (fun e => e ▸ hl1)⟩, by omega⟩
  ·refine rC dL 4 rfl ?_
   refine oV (qY i Tryz.underlying9 rfl rfl (aa.aY hk) rfl (by omega)) ?_
   refine ai (w9 (kk.getD i 0) (hk.get i) false (decide_eq_false hl1).symm) V.LZ  rfl .nil rfl ?_
   rintro _ _ ⟨rfl, rfl⟩
   refine rO dL 15 rfl ?_
   obtain rfl : t = false := ht.trans (decide_eq_false (aa.uK hl1 (by omega)))
   exact ak (aC rfl) ⟨rfl, rfl⟩ (sub .nil aw)
 ·refine rC dL 8 rfl ?_
  refine oV (tq Tryz.underlying9 rfl (jm kk)) ?_
  refine rO dL 5 rfl ?_
  obtain rfl : i = kk.length := by omega
  rw [aa.OQ ht hall]
  exact ak (aC rfl) ⟨rfl, rfl⟩ (sub .nil aw)
set_option maxHeartbeats 1000000 in
theorem lQ (p : Option Addr) (c : Nat) (B : List Int) (R : ad) (hR : ∀ w0 h, R w0 h → aS U5 p B.length B w0 h) (hB : aj.au B) (h4 : 4 ≤ B.length) (hcap : B.length ≤ c) : aG Tryz.prog 112 [.slice p B.length c] [R] (aQ fun v G => v = .int .i64 (aJ.dY B) ∧ G = [R]) := by
 refine av [(0, _)] Tryz.func112 rfl Tryz.ntmps112 rfl rfl ?_
 intro w0 F
 have hT : ∀ w0 h, R w0 h → aS U5 p 4 (B.take 4) w0 h := lO (cap := 0) hR 4 h4
 refine rT dL 14 rfl ?_
 refine oV (jQ 4 c V.bY rfl ⟨_, rfl⟩ rfl (by omega) (by omega)) ?_
 refine rO dL 5 rfl ?_
 refine eb (fun (i : Nat) => [(3, .int .i64 (aa.ac B i)), (7, .slice p 4 c), (8, .int .i64 4), (9, .int .i64 (i : Int))]) (fun (i : Nat) => R :: F) (fun (i : Nat) => i ≤ 4) (fun (i : Nat) => 4 - i) (i1 (0) ?_ (fo ln) (sub (ar .nil) aw)) ?_
 ·exact Nat.zero_le _
 intro i
 rintro hi
 refine rL dL 6 rfl ?_
 refine aN rfl (fun h10 => ?_) (fun h10 => ?_)
 ·refine rC dL 5 rfl ?_
  have hv := hB.get i
  have ha := aa.Ov hB (i := i) (by omega)
  refine bK ?_
  refine oV (xI V.bY (by exact bE hT an)) ?_
  refine oV (xL V.s5 (by exact bE hT an)) ?_
  rw [show U5.g (B.take 4) (i : Int) = (B.getD i 0) from aa.BE (by omega)]
  refine rO dL 5 rfl ?_
  refine oV (gb (r := (aa.ac B i) * 256) rfl rfl (by decide) (aJ.wW (n := 8) rfl (by decide) rfl (by omega) (by omega))) ?_
  refine oV (aK rfl) ?_
  refine oV (bg V.u5 Tryz.underlying3 rfl wI) ?_
  refine oV (nq (r := (aa.ac B i) * 256 + (B.getD i 0)) rfl rfl (aJ.qa (u := (aa.ac B i)) (n := 8) rfl ha.1 (by omega) (by omega))) ?_
  refine cQ dL 8 rfl (by omega) ?_
  refine j1 (i + 1) ?_ (fo ln) (sub (ar .nil) aw)
  exact ⟨by omega, by omega⟩
 ·refine rC dL 6 rfl ?_
  obtain rfl : i = 4 := by omega
  rw [aa.Qa]
  refine rC dL 6 rfl ?_
  exact ak (aC rfl) ⟨rfl, rfl⟩ (sub (ar .nil) aw)
theorem M7  : aG Tryz.prog 76 [] [] (aQ fun v G => ∃ b, v = .slice (some ⟨b, 0, none⟩) 8 8 ∧ G = [Row U5 (some ⟨b, 0, none⟩) 8 8 aa.ff]) := by
 refine av [] Tryz.func76 rfl Tryz.ntmps76 rfl rfl ?_
 intro w0 F
 refine rT dL 7 rfl ?_
 refine cV (U5) aa.ff V.bY V.z5 rfl rfl rfl rfl rfl rfl ?_
 intro b1
 refine rO dL 4 rfl ?_
 exact ak (aC rfl) ⟨b1, rfl, rfl⟩ (sub (ar .nil) aw)
set_option maxHeartbeats 1000000 in
theorem Jb (p : Option Addr) (c : Nat) (B : List Int) (R : ad) (hR : ∀ w0 h, R w0 h → aS U5 p B.length B w0 h) (hB : aj.au B) (p2 : Option Addr) (c2 : Nat) (D : List Int) (R2 : ad) (hR2 : ∀ w0 h, R2 w0 h → aS U5 p2 D.length D w0 h) (hD : aj.au D) (t : Bool) (ht : t = decide (B = D)) : aG Tryz.prog 110 [.slice p B.length c, .slice p2 D.length c2] [R, R2] (aQ fun v G => v = .bool t ∧ G = [R, R2]) := by
 refine av [(0, _), (1, _)] Tryz.func110 rfl Tryz.ntmps110 rfl rfl ?_
 intro w0 F
 refine rT dL 8 rfl ?_
 refine oV (ma (T := 5) Tryz.underlying22 Tryz.underlying5 Tryz.underlying9 rfl (by exact bE hR an)) ?_
 refine oV (aK rfl) ?_
 refine oV (ma (T := 5) Tryz.underlying22 Tryz.underlying5 Tryz.underlying9 rfl (by exact bE hR2 bW)) ?_
 refine oV (GH rfl rfl (F9 (aa.aY hB) (aa.aY hD) ht)) ?_
 refine rO dL 4 rfl ?_
 exact ak (aC rfl) ⟨rfl, rfl⟩ (sub (bF .nil) aw)
end Go.Proofs.YtmaiakpjgomnpaaGreat
namespace Go.Proofs.YtmaiakpjgomnpaaGreat
open Go.Sl
theorem V.jS : ia Tryz.prog 88 = some 2 := by kernel_rfl
theorem V.o5 : aH Tryz.prog 107 = true := by kernel_rfl
theorem V.rV : aH Tryz.prog 109 = true := by kernel_rfl
theorem V.PZ : aH Tryz.prog 110 = true := by kernel_rfl
theorem V.r6 : aH Tryz.prog 112 = true := by kernel_rfl
theorem V.uM : fO Tryz.prog 88 = some [(0, 1), (1, 1)] := by kernel_rfl
theorem V.lz : dH Tryz.prog 88 = some ([.string .empty, .slice none 0 0]) := by kernel_rfl
end Go.Proofs.YtmaiakpjgomnpaaGreat
namespace Go.Proofs.YtmaiakpjgomnpaaGreat
open Go.Sl 
theorem cN : dU Tryz.prog ⟨[22], []⟩ = true := by kernel_rfl
attribute [local irreducible] aj.au aa.gR aa.gL aa.eE aa.gh aa.eU aa.iC aa.ic aa.first
section
variable {C : Ctx} {E : Env} {L : List ad} {ty : TypeId}
theorem oL {t u u2 T n b T' : Nat} {cs : List Value} {v2 v3 : Value} (hs : ia C.P T = some n) (h1 : E.get t = some (.pointer (some ⟨b, 0, none⟩))) (hm : ao b T' cs ∈ L) (hn : cs.length = n) (h2 : E.get u = some v2) (h3 : E.get u2 = some v3) : lu C #[.cell t T, .tmp u, .tmp u2] E L (.tuple #[.agg cs.toArray, v2, v3]) := fun fn a w hr ha hi => by
 obtain ⟨g1, g2⟩ := lY hs w
 obtain ⟨F, hF⟩ := hi.mem hm
 have := run_loadCells_list (P := C.P) w ⟨b, 0, none⟩ cs (fun j v hj => by rw [Addr.fX, hF.ji, ← hj]; simp)
 rw [hn] at this
 simp [results, hr, ha.get _ _ h1, ha.get _ _ h2, ha.get _ _ h3, asAddr, loadVar, g1, g2, this]
end
theorem vc (p : Option Addr) (c n : Nat) (L : List Int) (R : ad) (hR : ∀ w0 h, R w0 h → aS U5 p n L w0 h) (hn : L.length = n) (hB : aj.au L) (h4 : 4 ≤ n) (hcap : n ≤ c) : aG Tryz.prog 112 [.slice p n c] [R] (aQ fun v G => v = .int .i64 (aJ.dY L) ∧ G = [R]) := by
 subst hn; exact lQ p c L R hR hB h4 hcap
theorem Fw (p : Option Addr) (c n : Nat) (L : List Int) (R : ad) (hR : ∀ w0 h, R w0 h → aS U5 p n L w0 h) (hn : L.length = n) (hB : aj.au L) (p2 : Option Addr) (c2 n2 : Nat) (D : List Int) (R2 : ad) (hR2 : ∀ w0 h, R2 w0 h → aS U5 p2 n2 D w0 h) (hn2 : D.length = n2) (hD : aj.au D) (t : Bool) (ht : t = decide (L = D)) : aG Tryz.prog 110 [.slice p n c, .slice p2 n2 c2] [R, R2] (aQ fun v G => v = .bool t ∧ G = [R, R2]) := by
 subst hn; subst hn2; exact Jb p c L R hR hB p2 c2 D R2 hR2 hD t ht
theorem xh (bt : Nat) (kk : List Int) (hk : aj.au kk) (hkl : kk.length < 500000000) (p : Option Addr) (c n : Nat) (L : List Int) (R : ad) (hR : ∀ w0 h, R w0 h → aS U5 p n L w0 h) (hn : L.length = n) (hl : n < 500000000) (hB : aj.au L) : aG Tryz.prog 109 [.pointer (some ⟨bt, 0, none⟩), .string (strOfNums kk), .slice p n c] [ao bt 175 (CA [] .u32 aa.eU []), R] (aQ fun v G => v = .int .u32 (aa.ic kk L) ∧ G = [ao bt 175 (CA [] .u32 aa.eU []), R]) := by
 subst hn; exact HG bt kk hk hkl p c L R hR hl hB
theorem Fp (kk : List Int) (hk : aj.au kk) (hkl : kk.length < 500000000) (p : Option Addr) (c n : Nat) (L : List Int) (R : ad) (hR : ∀ w0 h, R w0 h → aS U5 p n L w0 h) (hn : L.length = n) (hl : n < 500000000) (hB : aj.au L) : aG Tryz.prog 66 [.string (strOfNums kk), .slice p n c] [R] (aQ fun v G => v = .int .u32 (aa.ic kk L) ∧ G = [R]) := by
 subst hn; exact IZ kk hk hkl p c L R hR hl hB
theorem Fb (p : Option Addr) (c n : Nat) (L : List Int) (R : ad) (hR : ∀ w0 h, R w0 h → aS U5 p n L w0 h) (hn : L.length = n) (hl : n < 500000000) : aG Tryz.prog 91 [.slice p n c] [R] (aQ fun v G => ∃ q cq, v = .slice q n cq ∧ G = [Row U5 q n cq L, R]) := by
 subst hn; exact oz p c L R hR hl
set_option maxHeartbeats 1000000 in
theorem Ft (p : Option Addr) (c : Nat) (B : List Int) (R : ad) (hR : ∀ w0 h, R w0 h → aS U5 p B.length B w0 h) (hB : aj.au B) (hcap : B.length ≤ c) (p2 : Option Addr) (c2 : Nat) (D : List Int) (R2 : ad) (hR2 : ∀ w0 h, R2 w0 h → aS U5 p2 D.length D w0 h) (hD : aj.au D) (hlen : D.length ≤ B.length) (t : Bool) (ht : t = decide (B.take D.length = D)) : aG Tryz.prog 77 [.slice p B.length c, .slice p2 D.length c2] [R, R2] (aQ fun v G => v = .bool t ∧ G = [R, R2]) := by
 refine av [(0, _), (1, _)] Tryz.func77 rfl Tryz.ntmps77 rfl rfl ?_
 intro w0 F
 refine rT cN 11 rfl ?_
 refine oV (aW (ft rfl rfl) (by omega)) ?_
 refine rO cN 4 rfl ?_
 refine ag rfl ?_
 refine oV (jQ D.length _ V.bY rfl ⟨_, rfl⟩ rfl (by omega) (by omega)) ?_
 refine ag rfl ?_
 refine oV (aK rfl) ?_
 refine ag rfl ?_
 refine ai (Fw p c D.length (B.take D.length) R (lO (cap := 0) hR D.length hlen) (by rw [List.length_take]; omega) (aa.fL hB _) p2 c2 D.length D R2 hR2 rfl hD t ht) V.PZ  rfl (bF .nil) rfl ?_
 rintro _ _ ⟨rfl, rfl⟩
 refine rO cN 5 rfl ?_
 exact ak (aC rfl) ⟨rfl, rfl⟩ (sub (bF .nil) aw)
set_option maxHeartbeats 4000000 in
theorem zw (bt : Nat) (p : Option Addr) (c : Nat) (B : List Int) (R : ad) (hR : ∀ w0 h, R w0 h → aS U5 p B.length B w0 h) (hl : B.length < 500000000) (hB : aj.au B) (hcap : B.length ≤ c) : aG Tryz.prog 79 [.slice p B.length c, .pointer (some ⟨bt, 0, none⟩)] [ao bt 175 (CA [] .u32 aa.eU []), R] (aQ fun v G => (∃ e, aa.first B = .error e ∧ v = .tuple #[.agg #[.string ByteArray.empty, .slice none 0 0], .int .i64 0, .int .i64 e] ∧ G = [ao bt 175 (CA [] .u32 aa.eU []), R]) ∨ (∃ x q cq, aa.first B = .ok x ∧ v = .tuple #[.agg #[.string (strOfNums x.k), .slice q x.d.length cq], .int .i64 ((12 + x.d.length : Nat) : Int), .int .i64 0] ∧ G = [Row U5 q x.d.length cq x.d, ao bt 175 (CA [] .u32 aa.eU []), R])) := by
 refine av [(0, _), (1, _)] Tryz.func79 rfl Tryz.ntmps79 rfl rfl ?_
 intro w0 F
 refine rT cN 2 rfl ?_
 refine cC V.lz rfl ?_
 intro b4
 refine rO cN 4 rfl ?_
 rcases (aa.wC hB) with ⟨h12, hf⟩ | ⟨n, h12, hn, hnb, hbig, hf⟩ | ⟨n, h12, hn, hnb, hnm, hf⟩ | ⟨n, h12, hn, hnb, hnm, hlt, hf⟩ | ⟨n, h12, hn, hnb, hnm, hge, hsum, hf⟩ | ⟨n, h12, hn, hnb, hnm, hge, hsum, hf⟩
 ·refine rC cN 5 rfl ?_
  refine oV (aW (bu rfl rfl) (by omega)) ?_
  refine rO cN 5 rfl ?_
  refine oV (cB V.uM V.lz rfl (cs := [.string ByteArray.empty, .slice none 0 0]) rfl) ?_
  refine aU (aF V.jS rfl rfl (us := [_, _]) rfl rfl (by exact cY) (by exact Nat.le_of_ble_eq_true rfl) rfl) ?_
  refine rO cN 6 rfl ?_
  exact ak (oL V.jS rfl an rfl rfl rfl) (.inl ⟨2, hf, rfl, rfl⟩) (sub (.cons ay (.cons ay .nil)) cD)
 ·refine rC cN 5 rfl ?_
  refine oV (aA (bu rfl rfl) (by omega)) ?_
  refine rO cN 6 rfl ?_
  have hS : ∀ w0 h, R w0 h → aS U5 (eo p 4 c 1) (8 - 4) ((B.drop 4).take 4) w0 h := fun w0 h hh => (hR w0 h hh).sub 4 8 c (by decide) (by omega) (by omega)
  refine wN [pz 0 [] [0], pz 1 [0] [], pz 0 [] [0], pz 4 [2] [], pz 12 [3] [], pz 3 [1] [], pz 63 [4] []] [⟨fun y => ao b4 88 [.string ByteArray.empty, .slice none 0 0], none, none, []⟩, ⟨fun y => ao bt 175 (CA [] .u32 aa.eU []), none, none, []⟩, ⟨fun y => R, none, none, [1, 4]⟩] F V.mixed ?_
  refine nM ?_
  refine nE (fun y FF hA => bO (Post := [R]) (lQ p c B R hR hB (by omega) hcap) V.r6 rfl (ar .nil) (fun v G h => by rcases h with ⟨rfl, rfl⟩; exact ⟨rfl, .refl _⟩)) ?_
  refine nM ?_
  refine nV (fun y hA L => dX 4 8 _ V.bY rfl ⟨_, rfl⟩ ⟨_, rfl⟩ rfl (by omega) (by omega) (by omega)) ?_
  refine nR (fun y FF hA => ma (T := 5) Tryz.underlying22 Tryz.underlying5 Tryz.underlying9 rfl (by exact bE hS an)) ?_
  iterate 2 refine nA ?_
  refine aX ?_
  intro y hA
  clear hA
  refine bN ?_
  refine cu _ (.cons (d := 0) rfl (.cons (d := 1) rfl (.cons (d := 4) rfl (.cons (d := 7) rfl (.cons (d := 8) rfl (.nil _)))))) ?_
  refine bS (M := ao b4 88 [.string ByteArray.empty, .slice none 0 0] :: ao bt 175 (CA [] .u32 aa.eU []) :: R :: F) (fun _ _ h => h) ?_
  refine rC cN 3 rfl ?_
  rw [hn]
  refine rC cN 2 rfl ?_
  refine oV (aW (bd rfl rfl) (by omega)) ?_
  refine rO cN 11 rfl ?_
  refine oV (cB V.uM V.lz rfl (cs := [.string ByteArray.empty, .slice none 0 0]) rfl) ?_
  refine aU (aF V.jS rfl rfl (us := [_, _]) rfl rfl (by exact cY) (by exact Nat.le_of_ble_eq_true rfl) rfl) ?_
  refine rO cN 7 rfl ?_
  exact ak (oL V.jS rfl an rfl rfl rfl) (.inl ⟨4, hf, rfl, rfl⟩) (sub (.cons ay (.cons ay .nil)) cD)
 ·refine rC cN 5 rfl ?_
  refine oV (aA (bu rfl rfl) (by omega)) ?_
  refine rO cN 6 rfl ?_
  have hS : ∀ w0 h, R w0 h → aS U5 (eo p 4 c 1) (8 - 4) ((B.drop 4).take 4) w0 h := fun w0 h hh => (hR w0 h hh).sub 4 8 c (by decide) (by omega) (by omega)
  refine wN [pz 0 [] [0], pz 1 [0] [], pz 0 [] [0], pz 4 [2] [], pz 12 [3] [], pz 3 [1] [], pz 63 [4] []] [⟨fun y => ao b4 88 [.string ByteArray.empty, .slice none 0 0], none, none, []⟩, ⟨fun y => ao bt 175 (CA [] .u32 aa.eU []), none, none, []⟩, ⟨fun y => R, none, none, [1, 4]⟩] F V.mixed ?_
  refine nM ?_
  refine nE (fun y FF hA => bO (Post := [R]) (lQ p c B R hR hB (by omega) hcap) V.r6 rfl (ar .nil) (fun v G h => by rcases h with ⟨rfl, rfl⟩; exact ⟨rfl, .refl _⟩)) ?_
  refine nM ?_
  refine nV (fun y hA L => dX 4 8 _ V.bY rfl ⟨_, rfl⟩ ⟨_, rfl⟩ rfl (by omega) (by omega) (by omega)) ?_
  refine nR (fun y FF hA => ma (T := 5) Tryz.underlying22 Tryz.underlying5 Tryz.underlying9 rfl (by exact bE hS an)) ?_
  iterate 2 refine nA ?_
  refine aX ?_
  intro y hA
  clear hA
  refine bN ?_
  refine cu _ (.cons (d := 0) rfl (.cons (d := 1) rfl (.cons (d := 4) rfl (.cons (d := 7) rfl (.cons (d := 8) rfl (.nil _)))))) ?_
  refine bS (M := ao b4 88 [.string ByteArray.empty, .slice none 0 0] :: ao bt 175 (CA [] .u32 aa.eU []) :: R :: F) (fun _ _ h => h) ?_
  refine rC cN 3 rfl ?_
  rw [hn]
  refine rC cN 2 rfl ?_
  refine oV (aA (bd rfl rfl) (by omega)) ?_
  refine rO cN 2 rfl ?_
  refine ag rfl ?_
  refine ai (kB ((B.drop 4).take 4) (aa.fL (aa.eu hB 4) 4) (by rw [aa.iy (by omega)]; decide) false (decide_eq_false hnm).symm) V.o5  rfl .nil rfl ?_
  rintro _ _ ⟨rfl, rfl⟩
  refine rO cN 8 rfl ?_
  refine oV (cB V.uM V.lz rfl (cs := [.string ByteArray.empty, .slice none 0 0]) rfl) ?_
  refine aU (aF V.jS rfl rfl (us := [_, _]) rfl rfl (by exact cY) (by exact Nat.le_of_ble_eq_true rfl) rfl) ?_
  refine rO cN 7 rfl ?_
  exact ak (oL V.jS rfl an rfl rfl rfl) (.inl ⟨4, hf, rfl, rfl⟩) (sub (.cons ay (.cons ay .nil)) cD)
 ·refine rC cN 5 rfl ?_
  refine oV (aA (bu rfl rfl) (by omega)) ?_
  refine rO cN 6 rfl ?_
  have hS : ∀ w0 h, R w0 h → aS U5 (eo p 4 c 1) (8 - 4) ((B.drop 4).take 4) w0 h := fun w0 h hh => (hR w0 h hh).sub 4 8 c (by decide) (by omega) (by omega)
  refine wN [pz 0 [] [0], pz 1 [0] [], pz 0 [] [0], pz 4 [2] [], pz 12 [3] [], pz 3 [1] [], pz 63 [4] []] [⟨fun y => ao b4 88 [.string ByteArray.empty, .slice none 0 0], none, none, []⟩, ⟨fun y => ao bt 175 (CA [] .u32 aa.eU []), none, none, []⟩, ⟨fun y => R, none, none, [1, 4]⟩] F V.mixed ?_
  refine nM ?_
  refine nE (fun y FF hA => bO (Post := [R]) (lQ p c B R hR hB (by omega) hcap) V.r6 rfl (ar .nil) (fun v G h => by rcases h with ⟨rfl, rfl⟩; exact ⟨rfl, .refl _⟩)) ?_
  refine nM ?_
  refine nV (fun y hA L => dX 4 8 _ V.bY rfl ⟨_, rfl⟩ ⟨_, rfl⟩ rfl (by omega) (by omega) (by omega)) ?_
  refine nR (fun y FF hA => ma (T := 5) Tryz.underlying22 Tryz.underlying5 Tryz.underlying9 rfl (by exact bE hS an)) ?_
  iterate 2 refine nA ?_
  refine aX ?_
  intro y hA
  clear hA
  refine bN ?_
  refine cu _ (.cons (d := 0) rfl (.cons (d := 1) rfl (.cons (d := 4) rfl (.cons (d := 7) rfl (.cons (d := 8) rfl (.nil _)))))) ?_
  refine bS (M := ao b4 88 [.string ByteArray.empty, .slice none 0 0] :: ao bt 175 (CA [] .u32 aa.eU []) :: R :: F) (fun _ _ h => h) ?_
  refine rC cN 3 rfl ?_
  rw [hn]
  refine rC cN 2 rfl ?_
  refine oV (aA (bd rfl rfl) (by omega)) ?_
  refine rO cN 2 rfl ?_
  refine ag rfl ?_
  refine ai (kB ((B.drop 4).take 4) (aa.fL (aa.eu hB 4) 4) (by rw [aa.iy (by omega)]; decide) true (decide_eq_true hnm).symm) V.o5  rfl .nil rfl ?_
  rintro _ _ ⟨rfl, rfl⟩
  refine cQ cN 12 rfl (by omega) ?_
  refine oV (aW (bd rfl rfl) (by omega)) ?_
  refine rO cN 6 rfl ?_
  refine oV (cB V.uM V.lz rfl (cs := [.string ByteArray.empty, .slice none 0 0]) rfl) ?_
  refine aU (aF V.jS rfl rfl (us := [_, _]) rfl rfl (by exact cY) (by exact Nat.le_of_ble_eq_true rfl) rfl) ?_
  refine rO cN 7 rfl ?_
  exact ak (oL V.jS rfl an rfl rfl rfl) (.inl ⟨2, hf, rfl, rfl⟩) (sub (.cons ay (.cons ay .nil)) cD)
 ·refine rC cN 5 rfl ?_
  refine oV (aA (bu rfl rfl) (by omega)) ?_
  refine rO cN 6 rfl ?_
  have hS : ∀ w0 h, R w0 h → aS U5 (eo p 4 c 1) (8 - 4) ((B.drop 4).take 4) w0 h := fun w0 h hh => (hR w0 h hh).sub 4 8 c (by decide) (by omega) (by omega)
  refine wN [pz 0 [] [0], pz 1 [0] [], pz 0 [] [0], pz 4 [2] [], pz 12 [3] [], pz 3 [1] [], pz 63 [4] []] [⟨fun y => ao b4 88 [.string ByteArray.empty, .slice none 0 0], none, none, []⟩, ⟨fun y => ao bt 175 (CA [] .u32 aa.eU []), none, none, []⟩, ⟨fun y => R, none, none, [1, 4]⟩] F V.mixed ?_
  refine nM ?_
  refine nE (fun y FF hA => bO (Post := [R]) (lQ p c B R hR hB (by omega) hcap) V.r6 rfl (ar .nil) (fun v G h => by rcases h with ⟨rfl, rfl⟩; exact ⟨rfl, .refl _⟩)) ?_
  refine nM ?_
  refine nV (fun y hA L => dX 4 8 _ V.bY rfl ⟨_, rfl⟩ ⟨_, rfl⟩ rfl (by omega) (by omega) (by omega)) ?_
  refine nR (fun y FF hA => ma (T := 5) Tryz.underlying22 Tryz.underlying5 Tryz.underlying9 rfl (by exact bE hS an)) ?_
  iterate 2 refine nA ?_
  refine aX ?_
  intro y hA
  clear hA
  refine bN ?_
  refine cu _ (.cons (d := 0) rfl (.cons (d := 1) rfl (.cons (d := 4) rfl (.cons (d := 7) rfl (.cons (d := 8) rfl (.nil _)))))) ?_
  refine bS (M := ao b4 88 [.string ByteArray.empty, .slice none 0 0] :: ao bt 175 (CA [] .u32 aa.eU []) :: R :: F) (fun _ _ h => h) ?_
  refine rC cN 3 rfl ?_
  rw [hn]
  refine rC cN 2 rfl ?_
  refine oV (aA (bd rfl rfl) (by omega)) ?_
  refine rO cN 2 rfl ?_
  refine ag rfl ?_
  refine ai (kB ((B.drop 4).take 4) (aa.fL (aa.eu hB 4) 4) (by rw [aa.iy (by omega)]; decide) true (decide_eq_true hnm).symm) V.o5  rfl .nil rfl ?_
  rintro _ _ ⟨rfl, rfl⟩
  refine cQ cN 12 rfl (by omega) ?_
  refine oV (aA (bd rfl rfl) (by omega)) ?_
  refine rO cN 8 rfl ?_
  have hk4 := aa.fL (aa.eu hB 4) 4
  have zy := aa.fL (aa.eu hB 8) n
  have hb8 := aa.eu hB (8 + n)
  have hn4 := aa.u9 hb8
  have hX8 : ∀ w0 h, R w0 h → aS U5 (eo p 8 c 1) (8 + n - 8) ((B.drop 8).take n) w0 h := fun w0 h hh => by have h1 := (hR w0 h hh).sub 8 (8 + n) c (by omega) (by omega) (by omega); rwa [Nat.add_sub_cancel_left] at h1 ⊢
  have hXn : ∀ w0 h, R w0 h → aS U5 (eo p (8 + n) c 1) (B.length - (8 + n)) (B.drop (8 + n)) w0 h := fun w0 h hh => gW (c := U5) hR rfl (8 + n) c (by omega) hcap w0 h hh
  refine rC cN 3 rfl ?_
  refine oV (cK (v := .int .i64 ((8 + n : Nat) : Int)) (du rfl rfl wI) (by congr 1)) ?_
  refine oV (dX 8 (8 + n) c V.bY rfl ⟨_, rfl⟩ ⟨_, rfl⟩ rfl (by omega) (by omega) (by omega)) ?_
  refine rO cN 8 rfl ?_
  refine oV (cK (v := .int .i64 ((8 + n : Nat) : Int)) (du rfl rfl wI) (by congr 1)) ?_
  refine oV (dX (8 + n) B.length c V.bY rfl ⟨_, rfl⟩ ⟨rfl, rfl⟩ rfl (by omega) (by omega) (by omega)) ?_
  refine ai (vc (eo p (8 + n) c 1) (c - (8 + n)) (B.length - (8 + n)) (B.drop (8 + n)) R hXn List.length_drop hb8 (by omega) (by omega)) V.r6  rfl (.cons bX .nil) rfl ?_
  rintro _ _ ⟨rfl, rfl⟩
  refine oV (bg V.u3 Tryz.underlying76 rfl (aJ.wrap32 hn4.1 hn4.2)) ?_
  refine rO cN 3 rfl ?_
  refine ai (xh bt ((B.drop 4).take 4) hk4 (by rw [aa.iy (by omega)]; decide) (eo p 8 c 1) (c - 8) (8 + n - 8) ((B.drop 8).take n) R hX8 (by rw [aa.iy (by omega)]; omega) (by omega) zy) V.rV  rfl (.cons bX (ar .nil)) rfl ?_
  rintro _ _ ⟨rfl, rfl⟩
  refine oV (aA (cx rfl rfl) (fun h => h hsum)) ?_
  refine rO cN 9 rfl ?_
  refine ai (Fb (eo p 8 c 1) (c - 8) (8 + n - 8) ((B.drop 8).take n) R hX8 (by rw [aa.iy (by omega)]; omega) (by omega)) V.ze  rfl (.cons ay .nil) rfl ?_
  rintro _ _ ⟨q53, c53, rfl, rfl⟩
  refine oV (cB V.uM V.lz rfl (cs := [.string (strOfNums ((B.drop 4).take 4)), .slice q53 (8 + n - 8) c53]) rfl) ?_
  refine oV (aK rfl) ?_
  refine oV (cK (v := .int .i64 ((12 + n : Nat) : Int)) (du rfl rfl wI) (by congr 1)) ?_
  refine aU (aF V.jS rfl rfl (us := [_, _]) rfl rfl (by exact wH) (by exact Nat.le_of_ble_eq_true rfl) rfl) ?_
  refine rO cN 5 rfl ?_
  have hdl := aa.iy (l := B) (i := 8) (n := n) (by omega)
  have e8 : 8 + n - 8 = ((B.drop 8).take n).length := by rw [hdl]; omega
  rw [e8, show (12 + n : Nat) = 12 + ((B.drop 8).take n).length from by rw [hdl]]
  exact ak (oL V.jS rfl eG rfl rfl rfl) (.inr ⟨_, _, _, hf, rfl, rfl⟩) (sub (ar (.cons ay (.cons dQ .nil))) cD)
 ·refine rC cN 5 rfl ?_
  refine oV (aA (bu rfl rfl) (by omega)) ?_
  refine rO cN 6 rfl ?_
  have hS : ∀ w0 h, R w0 h → aS U5 (eo p 4 c 1) (8 - 4) ((B.drop 4).take 4) w0 h := fun w0 h hh => (hR w0 h hh).sub 4 8 c (by decide) (by omega) (by omega)
  refine wN [pz 0 [] [0], pz 1 [0] [], pz 0 [] [0], pz 4 [2] [], pz 12 [3] [], pz 3 [1] [], pz 63 [4] []] [⟨fun y => ao b4 88 [.string ByteArray.empty, .slice none 0 0], none, none, []⟩, ⟨fun y => ao bt 175 (CA [] .u32 aa.eU []), none, none, []⟩, ⟨fun y => R, none, none, [1, 4]⟩] F V.mixed ?_
  refine nM ?_
  refine nE (fun y FF hA => bO (Post := [R]) (lQ p c B R hR hB (by omega) hcap) V.r6 rfl (ar .nil) (fun v G h => by rcases h with ⟨rfl, rfl⟩; exact ⟨rfl, .refl _⟩)) ?_
  refine nM ?_
  refine nV (fun y hA L => dX 4 8 _ V.bY rfl ⟨_, rfl⟩ ⟨_, rfl⟩ rfl (by omega) (by omega) (by omega)) ?_
  refine nR (fun y FF hA => ma (T := 5) Tryz.underlying22 Tryz.underlying5 Tryz.underlying9 rfl (by exact bE hS an)) ?_
  iterate 2 refine nA ?_
  refine aX ?_
  intro y hA
  clear hA
  refine bN ?_
  refine cu _ (.cons (d := 0) rfl (.cons (d := 1) rfl (.cons (d := 4) rfl (.cons (d := 7) rfl (.cons (d := 8) rfl (.nil _)))))) ?_
  refine bS (M := ao b4 88 [.string ByteArray.empty, .slice none 0 0] :: ao bt 175 (CA [] .u32 aa.eU []) :: R :: F) (fun _ _ h => h) ?_
  refine rC cN 3 rfl ?_
  rw [hn]
  refine rC cN 2 rfl ?_
  refine oV (aA (bd rfl rfl) (by omega)) ?_
  refine rO cN 2 rfl ?_
  refine ag rfl ?_
  refine ai (kB ((B.drop 4).take 4) (aa.fL (aa.eu hB 4) 4) (by rw [aa.iy (by omega)]; decide) true (decide_eq_true hnm).symm) V.o5  rfl .nil rfl ?_
  rintro _ _ ⟨rfl, rfl⟩
  refine cQ cN 12 rfl (by omega) ?_
  refine oV (aA (bd rfl rfl) (by omega)) ?_
  refine rO cN 8 rfl ?_
  have hk4 := aa.fL (aa.eu hB 4) 4
  have zy := aa.fL (aa.eu hB 8) n
  have hb8 := aa.eu hB (8 + n)
  have hn4 := aa.u9 hb8
  have hX8 : ∀ w0 h, R w0 h → aS U5 (eo p 8 c 1) (8 + n - 8) ((B.drop 8).take n) w0 h := fun w0 h hh => by have h1 := (hR w0 h hh).sub 8 (8 + n) c (by omega) (by omega) (by omega); rwa [Nat.add_sub_cancel_left] at h1 ⊢
  have hXn : ∀ w0 h, R w0 h → aS U5 (eo p (8 + n) c 1) (B.length - (8 + n)) (B.drop (8 + n)) w0 h := fun w0 h hh => gW (c := U5) hR rfl (8 + n) c (by omega) hcap w0 h hh
  refine rC cN 3 rfl ?_
  refine oV (cK (v := .int .i64 ((8 + n : Nat) : Int)) (du rfl rfl wI) (by congr 1)) ?_
  refine oV (dX 8 (8 + n) c V.bY rfl ⟨_, rfl⟩ ⟨_, rfl⟩ rfl (by omega) (by omega) (by omega)) ?_
  refine rO cN 8 rfl ?_
  refine oV (cK (v := .int .i64 ((8 + n : Nat) : Int)) (du rfl rfl wI) (by congr 1)) ?_
  refine oV (dX (8 + n) B.length c V.bY rfl ⟨_, rfl⟩ ⟨rfl, rfl⟩ rfl (by omega) (by omega) (by omega)) ?_
  refine ai (vc (eo p (8 + n) c 1) (c - (8 + n)) (B.length - (8 + n)) (B.drop (8 + n)) R hXn List.length_drop hb8 (by omega) (by omega)) V.r6  rfl (.cons bX .nil) rfl ?_
  rintro _ _ ⟨rfl, rfl⟩
  refine oV (bg V.u3 Tryz.underlying76 rfl (aJ.wrap32 hn4.1 hn4.2)) ?_
  refine rO cN 3 rfl ?_
  refine ai (xh bt ((B.drop 4).take 4) hk4 (by rw [aa.iy (by omega)]; decide) (eo p 8 c 1) (c - 8) (8 + n - 8) ((B.drop 8).take n) R hX8 (by rw [aa.iy (by omega)]; omega) (by omega) zy) V.rV  rfl (.cons bX (ar .nil)) rfl ?_
  rintro _ _ ⟨rfl, rfl⟩
  refine oV (aW (cx rfl rfl) hsum) ?_
  refine rO cN 5 rfl ?_
  refine oV (cB V.uM V.lz rfl (cs := [.string ByteArray.empty, .slice none 0 0]) rfl) ?_
  refine aU (aF V.jS rfl rfl (us := [_, _]) rfl rfl (by exact ni) (by exact Nat.le_of_ble_eq_true rfl) rfl) ?_
  refine rO cN 6 rfl ?_
  exact ak (oL V.jS rfl dJ rfl rfl rfl) (.inl ⟨5, hf, rfl, rfl⟩) (sub (bF .nil) cD)
end Go.Proofs.YtmaiakpjgomnpaaGreat
namespace Go.Proofs.YtmaiakpjgomnpaaGreat
open Go.Sl
theorem V.rH : aH Tryz.prog 76 = true := by kernel_rfl
theorem V.Pg : aH Tryz.prog 77 = true := by kernel_rfl
theorem V.Rz : aH Tryz.prog 78 = true := by kernel_rfl
theorem V.FY : aH Tryz.prog 79 = true := by kernel_rfl
theorem V.nL : cy Tryz.prog 88 0 = some 0 := by kernel_rfl
theorem V.s9 : dq Tryz.prog 9 = true := by kernel_rfl
theorem V.gv : sliceB Tryz.prog 84 = some (88, 2, 40) := by kernel_rfl
end Go.Proofs.YtmaiakpjgomnpaaGreat
namespace Go.Proofs.YtmaiakpjgomnpaaGreat
open Go.Sl 
theorem c9 : dU Tryz.prog ⟨[22], [(88, 0, 0)]⟩ = true := by kernel_rfl
attribute [local irreducible] aj.au aa.gR aa.gL aa.eE aa.gh aa.eU aa.iC aa.ic aa.first aa.cut aa.gy aa.ff aa.bV
structure Ce where
 k : List Int
 p : Option Addr
 c : Nat
 d : List Int
def Ce.ch (x : Ce) : aa.Ch := ⟨x.k, x.d⟩
def MY (x : Ce) : Option Addr × List Int := (x.p, x.d)
abbrev CK : Ec Ce := ⟨88, 2, fun x => [.string (strOfNums x.k), .slice x.p x.d.length x.c], ⟨[], none, 0, []⟩, fun _ => rfl, fun _ => rfl⟩
abbrev DK (l : List Ce) : ad := Dq U5 MY l
def zr (x : Ce) : Prop := x.d.length ≤ x.c
theorem yU {es : List Ce} {x : Ce} (h : ∀ y ∈ es, zr y) (hx : x.d.length ≤ x.c) : ∀ y ∈ es ++ [x], zr y := fun y hy => (List.mem_append.1 hy).elim (h y) (fun e => List.mem_singleton.1 e ▸ hx)
theorem ES (bt : Nat) (p : Option Addr) (c n : Nat) (L : List Int) (R : ad) (hR : ∀ w0 h, R w0 h → aS U5 p n L w0 h) (hn : L.length = n) (hl : n < 500000000) (hB : aj.au L) (hcap : n ≤ c) (e : Int) (hf : aa.first L = .error e) : aG Tryz.prog 79 [.slice p n c, .pointer (some ⟨bt, 0, none⟩)] [ao bt 175 (CA [] .u32 aa.eU []), R] (aQ fun v G => v = .tuple #[.agg #[.string ByteArray.empty, .slice none 0 0], .int .i64 0, .int .i64 e] ∧ G = [ao bt 175 (CA [] .u32 aa.eU []), R]) := by
 subst hn
 refine (zw bt p c L R hR hl hB hcap).mono ?_
 rintro e2 G ⟨v, rfl, (⟨e', h, rfl, rfl⟩ | ⟨x, q, cq, h, _, _⟩)⟩
 ·rw [hf] at h; cases h; exact ⟨_, rfl, rfl, rfl⟩
 ·rw [hf] at h; cases h
theorem rX (bt : Nat) (p : Option Addr) (c n : Nat) (L : List Int) (R : ad) (hR : ∀ w0 h, R w0 h → aS U5 p n L w0 h) (hn : L.length = n) (hl : n < 500000000) (hB : aj.au L) (hcap : n ≤ c) (x : aa.Ch) (hf : aa.first L = .ok x) : aG Tryz.prog 79 [.slice p n c, .pointer (some ⟨bt, 0, none⟩)] [ao bt 175 (CA [] .u32 aa.eU []), R] (aQ fun v G => ∃ q cq, v = .tuple #[.agg #[.string (strOfNums x.k), .slice q x.d.length cq], .int .i64 ((12 + x.d.length : Nat) : Int), .int .i64 0] ∧ G = [Row U5 q x.d.length cq x.d, ao bt 175 (CA [] .u32 aa.eU []), R]) := by
 subst hn
 refine (zw bt p c L R hR hl hB hcap).mono ?_
 rintro e2 G ⟨v, rfl, (⟨e', h, _, _⟩ | ⟨x', q, cq, h, rfl, rfl⟩)⟩
 ·rw [hf] at h; cases h
 ·rw [hf] at h; cases h; exact ⟨_, rfl, q, cq, rfl, rfl⟩
theorem vj (p : Option Addr) (c n : Nat) (L : List Int) (R : ad) (hR : ∀ w0 h, R w0 h → aS U5 p n L w0 h) (hn : L.length = n) (hB : aj.au L) (hcap : n ≤ c) (p2 : Option Addr) (c2 n2 : Nat) (D : List Int) (R2 : ad) (hR2 : ∀ w0 h, R2 w0 h → aS U5 p2 n2 D w0 h) (hn2 : D.length = n2) (hD : aj.au D) (hlen : n2 ≤ n) (t : Bool) (ht : t = decide (L.take n2 = D)) : aG Tryz.prog 77 [.slice p n c, .slice p2 n2 c2] [R, R2] (aQ fun v G => v = .bool t ∧ G = [R, R2]) := by
 subst hn; subst hn2; exact Ft p c L R hR hB hcap p2 c2 D R2 hR2 hD hlen t ht
set_option maxHeartbeats 8000000 in
theorem GC (p : Option Addr) (c : Nat) (B : List Int) (R : ad) (hR : ∀ w0 h, R w0 h → aS U5 p B.length B w0 h) (hl : B.length < 500000000) (hB : aj.au B) (hcap : B.length ≤ c) : aG Tryz.prog 37 [.slice p B.length c] [R] (aQ fun v G => (∃ e, aa.cut B = .error e ∧ v = .tuple #[.slice none 0 0, .int .i64 e] ∧ G = [R]) ∨ (∃ q cq, ∃ es : List Ce, aa.cut B = .ok (es.map Ce.ch) ∧ es.length ≤ 262144 ∧ (∀ y ∈ es, zr y) ∧ v = .tuple #[.slice q es.length cq, .int .i64 0] ∧ G = [Row CK q es.length cq es, DK es, R])) := by
 refine av [(0, _)] Tryz.func37 rfl Tryz.ntmps37 rfl rfl ?_
 intro w0 F
 refine rT c9 8 rfl ?_
 refine ai (M7) V.rH  rfl .nil rfl ?_
 rintro _ _ ⟨b10, rfl, rfl⟩
 refine rO c9 5 rfl ?_
 rcases (aa.MK B) with ⟨h1, hc⟩ | ⟨h1, hc⟩ | ⟨h1, h2, hsg, hc⟩ | ⟨h1, h2, hsg, hc⟩
 ·refine rC c9 4 rfl ?_
  refine oV (aW (bd rfl rfl) (by omega)) ?_
  refine rO c9 13 rfl ?_
  exact ak (fD rfl rfl) (.inl ⟨3, hc, rfl, rfl⟩) (sub (.cons ay .nil) cD)
 ·refine rC c9 4 rfl ?_
  refine oV (aA (bd rfl rfl) (by omega)) ?_
  refine rO c9 10 rfl ?_
  refine oV (aW (bu rfl rfl) (by omega)) ?_
  refine rO c9 13 rfl ?_
  exact ak (fD rfl rfl) (.inl ⟨2, hc, rfl, rfl⟩) (sub (.cons ay .nil) cD)
 ·refine rC c9 4 rfl ?_
  refine oV (aA (bd rfl rfl) (by omega)) ?_
  refine rO c9 10 rfl ?_
  refine oV (aA (bu rfl rfl) (by omega)) ?_
  refine rO c9 8 rfl ?_
  refine ai (vj p c B.length B R hR rfl hB hcap (some ⟨b10, 0, none⟩) 8 8 aa.ff (Row U5 (some ⟨b10, 0, none⟩) 8 8 aa.ff) (fun _ _ hh => hh.rd) aa.wQ aa.sK (by omega) false (decide_eq_false hsg).symm) V.Pg  rfl (.cons ay (ar .nil)) rfl ?_
  rintro _ _ ⟨rfl, rfl⟩
  refine rO c9 14 rfl ?_
  exact ak (fD rfl rfl) (.inl ⟨4, hc, rfl, rfl⟩) (sub (ar .nil) cD)
 ·refine rC c9 4 rfl ?_
  refine oV (aA (bd rfl rfl) (by omega)) ?_
  refine rO c9 10 rfl ?_
  refine oV (aA (bu rfl rfl) (by omega)) ?_
  refine rO c9 8 rfl ?_
  refine ai (vj p c B.length B R hR rfl hB hcap (some ⟨b10, 0, none⟩) 8 8 aa.ff (Row U5 (some ⟨b10, 0, none⟩) 8 8 aa.ff) (fun _ _ hh => hh.rd) aa.wQ aa.sK (by omega) true (decide_eq_true hsg).symm) V.Pg  rfl (.cons ay (ar .nil)) rfl ?_
  rintro _ _ ⟨rfl, rfl⟩
  refine rO c9 10 rfl ?_
  refine ai (NS) V.Rz  rfl .nil rfl ?_
  rintro _ _ ⟨b26, rfl, rfl⟩
  refine rO c9 13 rfl ?_
  refine oV (dX 8 B.length c V.bY rfl ⟨_, rfl⟩ ⟨rfl, rfl⟩ rfl (by omega) (by omega) (by omega)) ?_
  refine rO c9 4 rfl ?_
  refine gp (DK []) (zZ _ _ _ _) ?_
  refine gp (Row CK none 0 0 []) (Row.nil _ _ _) ?_
  rw [show B.length - 8 = (B.drop 8).length from List.length_drop.symm]
  refine zA (fun (f : Nat) (pz : Option Addr) (cz : Nat) (Z : List Int) (pl : Option Addr) (cl : Nat) (es : List Ce) => [(0, .slice pz Z.length cz), (5, .pointer (some ⟨b26, 0, none⟩)), (6, .slice pl es.length cl)]) (fun (f : Nat) (pz : Option Addr) (cz : Nat) (Z : List Int) (pl : Option Addr) (cl : Nat) (es : List Ce) => Row CK pl es.length cl es :: DK es :: ao b26 175 (CA [] .u32 aa.eU []) :: R :: F) (fun (f : Nat) (pz : Option Addr) (cz : Nat) (Z : List Int) (pl : Option Addr) (cl : Nat) (es : List Ce) => aa.gy f Z (es.map Ce.ch) = aa.cut B ∧ Z.length < f ∧ (∀ w0 h, R w0 h → aS U5 pz Z.length Z w0 h) ∧ Z.length ≤ cz ∧ aj.au Z ∧ es.length + Z.length ≤ 262144 ∧ (∀ y ∈ es, zr y)) (fun (f : Nat) (pz : Option Addr) (cz : Nat) (Z : List Int) (pl : Option Addr) (cl : Nat) (es : List Ce) => f) (i7 ((B.length + 1)) ((eo p 8 c 1)) ((c - 8)) ((B.drop 8)) (none) (0) ([]) ?_ (js ln) (sub (nH .nil) cD)) ?_
  ·exact ⟨hc, by rw [List.length_drop]; omega, by rw [List.length_drop]; exact gW (c := U5) hR rfl 8 c (by omega) hcap, by rw [List.length_drop]; omega, aa.eu hB 8, by rw [List.length_drop]; show 0 + _ ≤ _; omega, fun y hy => by cases hy⟩
  intro f pz cz Z pl cl es
  rintro ⟨hcut, hZf, hZR, hZc, hZB, hes, hco⟩
  obtain ⟨f, rfl⟩ : ∃ g, f = g + 1 := ⟨f - 1, by omega⟩
  refine rL c9 1 rfl ?_
  rcases (aa.PL hZB) with ⟨e, hf, he⟩ | ⟨x, hf, hxl, hxn, hxB, hk⟩ | ⟨x, hf, hxl, hxn, hxB, hk⟩ | ⟨x, hf, hxl, hxn, hxB, hk⟩
  ·refine rC c9 4 rfl ?_
   refine ai (ES b26 pz cz Z.length Z R hZR rfl (by omega) hZB hZc e hf) V.FY  rfl (.cons bX (.cons bX .nil)) rfl ?_
   rintro _ _ ⟨rfl, rfl⟩
   refine rO c9 4 rfl ?_
   refine cC V.lz rfl ?_
   intro b7
   refine aU (aF V.jS rfl rfl (us := [_, _]) rfl rfl (by exact cY) (by exact Nat.le_of_ble_eq_true rfl) rfl) ?_
   refine rO c9 8 rfl ?_
   refine oV (aW (cx rfl rfl) he) ?_
   refine rO c9 15 rfl ?_
   rw [aa.Nt hf] at hcut
   exact ak (fD rfl rfl) (.inl ⟨e, hcut.symm, rfl, rfl⟩) (sub (.cons bX .nil) mI)
  ·refine rC c9 4 rfl ?_
   refine ai (rX b26 pz cz Z.length Z R hZR rfl (by omega) hZB hZc x hf) V.FY  rfl (.cons bX (.cons bX .nil)) rfl ?_
   rintro _ _ ⟨q35, c35, rfl, rfl⟩
   refine rO c9 4 rfl ?_
   refine cC V.lz rfl ?_
   intro b7
   refine aU (aF V.jS rfl rfl (us := [_, _]) rfl rfl (by exact cY) (by exact Nat.le_of_ble_eq_true rfl) rfl) ?_
   refine rO c9 8 rfl ?_
   refine oV (aA (cx rfl rfl) (fun h => h rfl)) ?_
   refine rO c9 9 rfl ?_
   refine oV (dX (12 + x.d.length) Z.length cz V.bY rfl ⟨_, rfl⟩ ⟨rfl, rfl⟩ rfl (by omega) (by omega) (by omega)) ?_
   refine rO c9 6 rfl ?_
   refine oV (bG V.jS rfl an (vs := [_, _]) rfl rfl) ?_
   refine cV (CK) [(Ce.mk x.k q35 c35 x.d)] V.gv V.lz rfl rfl rfl rfl rfl rfl ?_
   intro b46
   refine dw (c := (CK)) V.gv V.lz rfl rfl rfl rfl kb (own an) (by omega) rfl ?_
   intro p47 c47
   refine rO c9 5 rfl ?_
   refine gY (fun w hi => fM hi (show Row U5 q35 x.d.length c35 x.d ∈ _ by exact eG)) (fun hcx => ?_)
   refine bS (aV (A := DK (es ++ [(Ce.mk x.k q35 c35 x.d)])) (.cons oo (.cons dI .nil)) aw (fun w0 h hh => ob (x := (Ce.mk x.k q35 c35 x.d)) rfl hh)) ?_
   refine rC c9 2 rfl ?_
   refine oV (ae V.s9 rfl eG rfl) ?_
   refine oV (cK (v := .bool true) (kx (r := false) (sP (aa.aY (aa.rA hxn)) (aa.aY aa.wM) hk) rfl (show aq _ _ = some (.string (strOfNums aa.bV)) by unfold aa.bV; rfl)) rfl) ?_
   refine rO c9 6 rfl ?_
   have hdl : (Z.drop (12 + x.d.length)).length = Z.length - (12 + x.d.length) := List.length_drop
   have hel : (es ++ [(Ce.mk x.k q35 c35 x.d)]).length = es.length + 1 := by rw [List.length_append]; rfl
   rw [aa.Mc hf hk, show es.map Ce.ch ++ [x] = (es ++ [(Ce.mk x.k q35 c35 x.d)]).map Ce.ch from by rw [List.map_append]; rfl] at hcut
   rw [← hdl, ← hel]
   exact j7 f _ _ (Z.drop (12 + x.d.length)) _ _ (es ++ [(Ce.mk x.k q35 c35 x.d)]) ⟨⟨hcut, by omega, by rw [hdl]; exact gW (c := U5) hZR rfl (12 + x.d.length) cz (by omega) hZc, by omega, aa.eu hZB _, by omega, yU hco hcx⟩, by omega⟩ (.cons rfl (.cons rfl (.cons rfl (.nil _)))) (sub (.cons ay (.cons dQ (.cons bX (.cons bX .nil)))) ie)
  ·refine rC c9 4 rfl ?_
   refine ai (rX b26 pz cz Z.length Z R hZR rfl (by omega) hZB hZc x hf) V.FY  rfl (.cons bX (.cons bX .nil)) rfl ?_
   rintro _ _ ⟨q35, c35, rfl, rfl⟩
   refine rO c9 4 rfl ?_
   refine cC V.lz rfl ?_
   intro b7
   refine aU (aF V.jS rfl rfl (us := [_, _]) rfl rfl (by exact cY) (by exact Nat.le_of_ble_eq_true rfl) rfl) ?_
   refine rO c9 8 rfl ?_
   refine oV (aA (cx rfl rfl) (fun h => h rfl)) ?_
   refine rO c9 9 rfl ?_
   refine oV (dX (12 + x.d.length) Z.length cz V.bY rfl ⟨_, rfl⟩ ⟨rfl, rfl⟩ rfl (by omega) (by omega) (by omega)) ?_
   refine rO c9 6 rfl ?_
   refine oV (bG V.jS rfl an (vs := [_, _]) rfl rfl) ?_
   refine cV (CK) [(Ce.mk x.k q35 c35 x.d)] V.gv V.lz rfl rfl rfl rfl rfl rfl ?_
   intro b46
   refine dw (c := (CK)) V.gv V.lz rfl rfl rfl rfl kb (own an) (by omega) rfl ?_
   intro p47 c47
   refine rO c9 5 rfl ?_
   refine gY (fun w hi => fM hi (show Row U5 q35 x.d.length c35 x.d ∈ _ by exact eG)) (fun hcx => ?_)
   refine bS (aV (A := DK (es ++ [(Ce.mk x.k q35 c35 x.d)])) (.cons oo (.cons dI .nil)) aw (fun w0 h hh => ob (x := (Ce.mk x.k q35 c35 x.d)) rfl hh)) ?_
   refine rC c9 2 rfl ?_
   refine oV (ae V.s9 rfl eG rfl) ?_
   refine oV (cK (v := .bool false) (kx (r := true) (by rw [hk]; exact beq_self_eq_true _) rfl (show aq _ _ = some (.string (strOfNums aa.bV)) by unfold aa.bV; rfl)) rfl) ?_
   refine rO c9 10 rfl ?_
   refine oV (aA (bd rfl rfl) (by omega)) ?_
   refine rO c9 16 rfl ?_
   have hel : (es ++ [(Ce.mk x.k q35 c35 x.d)]).length = es.length + 1 := by rw [List.length_append]; rfl
   rw [aa.Ni hf hk hxl, show es.map Ce.ch ++ [x] = (es ++ [(Ce.mk x.k q35 c35 x.d)]).map Ce.ch from by rw [List.map_append]; rfl] at hcut
   rw [← hel]
   exact ak (fD rfl rfl) (.inr ⟨_, _, _, hcut.symm, by omega, yU hco hcx, rfl, rfl⟩) (sub (.cons ay (ar (.cons dI .nil))) n8)
  ·refine rC c9 4 rfl ?_
   refine ai (rX b26 pz cz Z.length Z R hZR rfl (by omega) hZB hZc x hf) V.FY  rfl (.cons bX (.cons bX .nil)) rfl ?_
   rintro _ _ ⟨q35, c35, rfl, rfl⟩
   refine rO c9 4 rfl ?_
   refine cC V.lz rfl ?_
   intro b7
   refine aU (aF V.jS rfl rfl (us := [_, _]) rfl rfl (by exact cY) (by exact Nat.le_of_ble_eq_true rfl) rfl) ?_
   refine rO c9 8 rfl ?_
   refine oV (aA (cx rfl rfl) (fun h => h rfl)) ?_
   refine rO c9 9 rfl ?_
   refine oV (dX (12 + x.d.length) Z.length cz V.bY rfl ⟨_, rfl⟩ ⟨rfl, rfl⟩ rfl (by omega) (by omega) (by omega)) ?_
   refine rO c9 6 rfl ?_
   refine oV (bG V.jS rfl an (vs := [_, _]) rfl rfl) ?_
   refine cV (CK) [(Ce.mk x.k q35 c35 x.d)] V.gv V.lz rfl rfl rfl rfl rfl rfl ?_
   intro b46
   refine dw (c := (CK)) V.gv V.lz rfl rfl rfl rfl kb (own an) (by omega) rfl ?_
   intro p47 c47
   refine rO c9 5 rfl ?_
   refine gY (fun w hi => fM hi (show Row U5 q35 x.d.length c35 x.d ∈ _ by exact eG)) (fun hcx => ?_)
   refine bS (aV (A := DK (es ++ [(Ce.mk x.k q35 c35 x.d)])) (.cons oo (.cons dI .nil)) aw (fun w0 h hh => ob (x := (Ce.mk x.k q35 c35 x.d)) rfl hh)) ?_
   refine rC c9 2 rfl ?_
   refine oV (ae V.s9 rfl eG rfl) ?_
   refine oV (cK (v := .bool false) (kx (r := true) (by rw [hk]; exact beq_self_eq_true _) rfl (show aq _ _ = some (.string (strOfNums aa.bV)) by unfold aa.bV; rfl)) rfl) ?_
   refine rO c9 10 rfl ?_
   refine oV (aW (bd rfl rfl) (by omega)) ?_
   refine rO c9 14 rfl ?_
   rw [aa.Nq hf hk hxl] at hcut
   exact ak (fD rfl rfl) (.inl ⟨4, hcut.symm, rfl, rfl⟩) (sub (.cons kb .nil) Hb)
end Go.Proofs.YtmaiakpjgomnpaaGreat
namespace Go.Proofs.YtmaiakpjgomnpaaGreat
open Go.Sl
theorem V.Ju : aH Tryz.prog 113 = true := by kernel_rfl
theorem V.Nn : aH Tryz.prog 114 = true := by kernel_rfl
theorem V.Q8 : cy Tryz.prog 137 0 = some 0 := by kernel_rfl
theorem V.RW : cy Tryz.prog 137 1 = some 1 := by kernel_rfl
theorem V.RQ : cy Tryz.prog 137 2 = some 2 := by kernel_rfl
theorem V.Q7 : cy Tryz.prog 137 3 = some 3 := by kernel_rfl
end Go.Proofs.YtmaiakpjgomnpaaGreat
namespace Go.Proofs.YtmaiakpjgomnpaaGreat
open Go.Sl 
theorem bP : dU Tryz.prog ⟨[], [(88, 0, 0), (137, 0, 0), (137, 1, 1), (137, 2, 2), (137, 3, 3)]⟩ = true := by kernel_rfl
attribute [local irreducible] aj.au aa.gR aa.gL aa.eE aa.gh aa.eU aa.iC aa.bQ aa.a7 aa.bA aa.bV aa.cS aa.gN aa.eh
set_option maxHeartbeats 1000000 in
theorem CQ (kk : List Int) (hk : aj.au kk) (hkl : kk.length < 500000000) (t : Bool) (ht : t = decide (aa.gN kk)) : aG Tryz.prog 114 [.string (strOfNums kk)] [] (aQ fun v G => v = .bool t ∧ G = []) := by
 refine av [(0, _)] Tryz.func114 rfl Tryz.ntmps114 rfl rfl ?_
 intro w0 F
 refine rT bP 5 rfl ?_
 rcases (Classical.em (aa.eh kk)) with hnm | hnm
 ·refine rC bP 3 rfl ?_
  refine ai (kB kk hk (by omega) true (decide_eq_true hnm).symm) V.o5  rfl .nil rfl ?_
  rintro _ _ ⟨rfl, rfl⟩
  refine rO bP 2 rfl ?_
  refine ag rfl ?_
  refine oV (qY 0 Tryz.underlying9 rfl rfl (aa.aY hk) rfl (by have := aa.Ab hnm; omega)) ?_
  refine rO bP 6 rfl ?_
  (rw [show decide (kk.getD 0 0 ≤ 90) = t from (aa.Km ht hnm).symm]; exact ak (G := []) (aC rfl) ⟨rfl, rfl⟩ (sub .nil aw))
 ·refine rC bP 3 rfl ?_
  refine ai (kB kk hk (by omega) false (decide_eq_false hnm).symm) V.o5  rfl .nil rfl ?_
  rintro _ _ ⟨rfl, rfl⟩
  refine rO bP 9 rfl ?_
  (obtain rfl : t = false := aa.Kh ht hnm; exact ak (G := []) (aC rfl) ⟨rfl, rfl⟩ (sub .nil aw))
set_option maxHeartbeats 1000000 in
theorem HN (b : Nat) (pl tr id_ ov : Bool) : aG Tryz.prog 113 [.pointer (some ⟨b, 0, none⟩), .pointer (some ⟨b, 0, none⟩)] [ao b 137 [.bool pl, .bool tr, .bool id_, .bool ov]] (aQ fun v G => v = .bool (!pl && !id_) ∧ G = [ao b 137 [.bool true, .bool tr, .bool id_, .bool ov]]) := by
 refine av [(0, _), (1, _)] Tryz.func113 rfl Tryz.ntmps113 rfl rfl ?_
 intro w0 F
 refine rT bP 5 rfl ?_
 rcases ((by cases pl; exact .inl rfl; exact .inr rfl : pl = false ∨ pl = true)) with rfl | rfl
 ·refine rC bP 4 rfl ?_
  refine oV (ae V.s4 rfl an rfl) ?_
  refine rO bP 5 rfl ?_
  refine ag rfl ?_
  refine oV (ae V.s4 rfl an rfl) ?_
  refine ag rfl ?_
  refine oV (mL rfl) ?_
  refine rO bP 8 rfl ?_
  refine aU (bZ V.s4 rfl rfl rfl (by exact cY) (by exact Nat.le_of_ble_eq_true rfl) rfl) ?_
  refine rO bP 9 rfl ?_
  exact ak (aC rfl) ⟨rfl, rfl⟩ (sub (ar .nil) aw)
 ·refine rC bP 4 rfl ?_
  refine oV (ae V.s4 rfl an rfl) ?_
  refine rO bP 15 rfl ?_
  refine aU (bZ V.s4 rfl rfl rfl (by exact cY) (by exact Nat.le_of_ble_eq_true rfl) rfl) ?_
  refine rO bP 9 rfl ?_
  exact ak (aC rfl) ⟨rfl, rfl⟩ (sub (ar .nil) aw)
set_option maxHeartbeats 1000000 in
theorem IA (b : Nat) (pl tr id_ ov : Bool) : aG Tryz.prog 113 [.pointer (some ⟨b, 0, none⟩), .pointer (some ⟨b, 1, none⟩)] [ao b 137 [.bool pl, .bool tr, .bool id_, .bool ov]] (aQ fun v G => v = .bool (!tr && !id_) ∧ G = [ao b 137 [.bool pl, .bool true, .bool id_, .bool ov]]) := by
 refine av [(0, _), (1, _)] Tryz.func113 rfl Tryz.ntmps113 rfl rfl ?_
 intro w0 F
 refine rT bP 5 rfl ?_
 rcases ((by cases tr; exact .inl rfl; exact .inr rfl : tr = false ∨ tr = true)) with rfl | rfl
 ·refine rC bP 4 rfl ?_
  refine oV (ae V.s4 rfl an rfl) ?_
  refine rO bP 5 rfl ?_
  refine ag rfl ?_
  refine oV (ae V.s4 rfl an rfl) ?_
  refine ag rfl ?_
  refine oV (mL rfl) ?_
  refine rO bP 8 rfl ?_
  refine aU (bZ V.s4 rfl rfl rfl (by exact cY) (by exact Nat.le_of_ble_eq_true rfl) rfl) ?_
  refine rO bP 9 rfl ?_
  exact ak (aC rfl) ⟨rfl, rfl⟩ (sub (ar .nil) aw)
 ·refine rC bP 4 rfl ?_
  refine oV (ae V.s4 rfl an rfl) ?_
  refine rO bP 15 rfl ?_
  refine aU (bZ V.s4 rfl rfl rfl (by exact cY) (by exact Nat.le_of_ble_eq_true rfl) rfl) ?_
  refine rO bP 9 rfl ?_
  exact ak (aC rfl) ⟨rfl, rfl⟩ (sub (ar .nil) aw)
set_option maxHeartbeats 4000000 in
theorem CH (b : Nat) (pl tr id_ ov : Bool) (x : Ce) (hxk : aj.au x.k) (hxl : x.k.length < 500000000) : aG Tryz.prog 80 [.pointer (some ⟨b, 0, none⟩), .agg #[.string (strOfNums x.k), .slice x.p x.d.length x.c]] [ao b 137 [.bool pl, .bool tr, .bool id_, .bool ov]] (aQ fun v G => v = .bool (aa.de ⟨pl, tr, id_, ov⟩ x.ch).2 ∧ G = [ao b 137 [.bool (aa.de ⟨pl, tr, id_, ov⟩ x.ch).1.plte, .bool (aa.de ⟨pl, tr, id_, ov⟩ x.ch).1.trns, .bool (aa.de ⟨pl, tr, id_, ov⟩ x.ch).1.c4, .bool (aa.de ⟨pl, tr, id_, ov⟩ x.ch).1.kM]]) := by
 refine av [(0, _), (1, _)] Tryz.func80 rfl Tryz.ntmps80 rfl rfl ?_
 intro w0 F
 refine rT bP 2 rfl ?_
 refine eN rfl (cs := [_, _]) rfl rfl ?_
 intro b3
 refine rO bP 3 rfl ?_
 rcases (aa.OT x.k tr) with h1 | ⟨h1, h2, rfl⟩ | ⟨h1, h2, rfl⟩ | ⟨h1, h2, h3⟩ | ⟨h1, h2, h3, h4⟩ | ⟨h1, h2, h3, h4, h5⟩ | ⟨h1, h2, h3, h4, h5⟩
 ·refine rC bP 4 rfl ?_
  refine oV (ae V.s9 rfl an rfl) ?_
  refine oV (fe (aa.aY hxk) (aa.aY aa.kz) rfl (show aq _ _ = some (.string (strOfNums aa.bQ)) by unfold aa.bQ; rfl) (decide_eq_true h1).symm) ?_
  refine rO bP 8 rfl ?_
  refine aU (bZ V.s4 rfl rfl rfl (by exact mh) (by exact Nat.le_of_ble_eq_true rfl) rfl) ?_
  refine rO bP 7 rfl ?_
  refine oV (ae V.s4 rfl bW rfl) ?_
  refine oV (mL rfl) ?_
  refine rO bP 5 rfl ?_
  exact ak (aC rfl) (by rw [show (aa.de ⟨pl, tr, id_, ov⟩ x.ch) = _ from aa.P1 h1]; exact ⟨rfl, rfl⟩) (sub (.cons ay .nil) cD)
 ·refine rC bP 4 rfl ?_
  refine oV (ae V.s9 rfl an rfl) ?_
  refine oV (fe (aa.aY hxk) (aa.aY aa.kz) rfl (show aq _ _ = some (.string (strOfNums aa.bQ)) by unfold aa.bQ; rfl) (decide_eq_false h1).symm) ?_
  refine rO bP 11 rfl ?_
  refine oV (ae V.s4 rfl bW rfl) ?_
  refine rO bP 2 rfl ?_
  refine aU (bZ V.s4 rfl rfl rfl (by exact mh) (by exact Nat.le_of_ble_eq_true rfl) rfl) ?_
  refine rO bP 6 rfl ?_
  refine oV (ae V.s9 rfl an rfl) ?_
  refine rO bP 5 rfl ?_
  refine oV (fe (aa.aY hxk) (aa.aY aa.jZ) rfl (show aq _ _ = some (.string (strOfNums aa.a7)) by unfold aa.a7; rfl) (decide_eq_true h2).symm) ?_
  refine rO bP 9 rfl ?_
  refine oV (ae V.s4 rfl bW rfl) ?_
  refine rO bP 14 rfl ?_
  (exact ak (G := [ao b 137 [.bool pl, .bool true, .bool id_, .bool id_]]) (aC rfl) (by rw [show (aa.de ⟨pl, true, id_, ov⟩ x.ch) = _ from aa.OU h1 h2]; exact ⟨rfl, rfl⟩) (sub (.cons ay .nil) cD))
 ·refine rC bP 4 rfl ?_
  refine oV (ae V.s9 rfl an rfl) ?_
  refine oV (fe (aa.aY hxk) (aa.aY aa.kz) rfl (show aq _ _ = some (.string (strOfNums aa.bQ)) by unfold aa.bQ; rfl) (decide_eq_false h1).symm) ?_
  refine rO bP 11 rfl ?_
  refine oV (ae V.s4 rfl bW rfl) ?_
  refine rO bP 2 rfl ?_
  refine aU (bZ V.s4 rfl rfl rfl (by exact mh) (by exact Nat.le_of_ble_eq_true rfl) rfl) ?_
  refine rO bP 6 rfl ?_
  refine oV (ae V.s9 rfl an rfl) ?_
  refine rO bP 5 rfl ?_
  refine oV (fe (aa.aY hxk) (aa.aY aa.jZ) rfl (show aq _ _ = some (.string (strOfNums aa.a7)) by unfold aa.a7; rfl) (decide_eq_true h2).symm) ?_
  refine rO bP 9 rfl ?_
  refine oV (ae V.s4 rfl bW rfl) ?_
  refine rO bP 6 rfl ?_
  refine ag rfl ?_
  refine ai (HN b pl false id_ id_) V.Ju  rfl (.cons ay .nil) rfl ?_
  rintro _ _ ⟨rfl, rfl⟩
  refine rO bP 7 rfl ?_
  (exact ak (G := [ao b 137 [.bool true, .bool false, .bool id_, .bool id_]]) (aC rfl) (by rw [show (aa.de ⟨pl, false, id_, ov⟩ x.ch) = _ from aa.Oi h1 h2]; exact ⟨rfl, rfl⟩) (sub (ar .nil) cD))
 ·refine rC bP 4 rfl ?_
  refine oV (ae V.s9 rfl an rfl) ?_
  refine oV (fe (aa.aY hxk) (aa.aY aa.kz) rfl (show aq _ _ = some (.string (strOfNums aa.bQ)) by unfold aa.bQ; rfl) (decide_eq_false h1).symm) ?_
  refine rO bP 11 rfl ?_
  refine oV (ae V.s4 rfl bW rfl) ?_
  refine rO bP 2 rfl ?_
  refine aU (bZ V.s4 rfl rfl rfl (by exact mh) (by exact Nat.le_of_ble_eq_true rfl) rfl) ?_
  refine rO bP 6 rfl ?_
  refine oV (ae V.s9 rfl an rfl) ?_
  refine rO bP 5 rfl ?_
  refine oV (fe (aa.aY hxk) (aa.aY aa.jZ) rfl (show aq _ _ = some (.string (strOfNums aa.a7)) by unfold aa.a7; rfl) (decide_eq_false h2).symm) ?_
  refine rO bP 6 rfl ?_
  refine oV (fe (aa.aY hxk) (aa.aY aa.l7) rfl (show aq _ _ = some (.string (strOfNums aa.bA)) by unfold aa.bA; rfl) (decide_eq_true h3).symm) ?_
  refine rO bP 10 rfl ?_
  refine ai (IA b pl tr id_ id_) V.Ju  rfl (.cons ay .nil) rfl ?_
  rintro _ _ ⟨rfl, rfl⟩
  refine rO bP 6 rfl ?_
  exact ak (aC rfl) (by rw [show (aa.de ⟨pl, tr, id_, ov⟩ x.ch) = _ from aa.PI h1 h2 h3]; exact ⟨rfl, rfl⟩) (sub (ar .nil) cD)
 ·refine rC bP 4 rfl ?_
  refine oV (ae V.s9 rfl an rfl) ?_
  refine oV (fe (aa.aY hxk) (aa.aY aa.kz) rfl (show aq _ _ = some (.string (strOfNums aa.bQ)) by unfold aa.bQ; rfl) (decide_eq_false h1).symm) ?_
  refine rO bP 11 rfl ?_
  refine oV (ae V.s4 rfl bW rfl) ?_
  refine rO bP 2 rfl ?_
  refine aU (bZ V.s4 rfl rfl rfl (by exact mh) (by exact Nat.le_of_ble_eq_true rfl) rfl) ?_
  refine rO bP 6 rfl ?_
  refine oV (ae V.s9 rfl an rfl) ?_
  refine rO bP 5 rfl ?_
  refine oV (fe (aa.aY hxk) (aa.aY aa.jZ) rfl (show aq _ _ = some (.string (strOfNums aa.a7)) by unfold aa.a7; rfl) (decide_eq_false h2).symm) ?_
  refine rO bP 6 rfl ?_
  refine oV (fe (aa.aY hxk) (aa.aY aa.l7) rfl (show aq _ _ = some (.string (strOfNums aa.bA)) by unfold aa.bA; rfl) (decide_eq_false h3).symm) ?_
  refine rO bP 10 rfl ?_
  refine oV (ae V.s9 rfl an rfl) ?_
  refine ai (kB x.k hxk (by omega) false (decide_eq_false h4).symm) V.o5  rfl .nil rfl ?_
  rintro _ _ ⟨rfl, rfl⟩
  refine rO bP 10 rfl ?_
  (exact ak (G := [ao b 137 [.bool pl, .bool tr, .bool id_, .bool id_]]) (aC rfl) (by rw [show (aa.de ⟨pl, tr, id_, ov⟩ x.ch) = _ from aa.EK (r := false) h1 h2 h3 (aa.Qi h4)]; exact ⟨rfl, rfl⟩) (sub (.cons ay .nil) cD))
 ·refine rC bP 4 rfl ?_
  refine oV (ae V.s9 rfl an rfl) ?_
  refine oV (fe (aa.aY hxk) (aa.aY aa.kz) rfl (show aq _ _ = some (.string (strOfNums aa.bQ)) by unfold aa.bQ; rfl) (decide_eq_false h1).symm) ?_
  refine rO bP 11 rfl ?_
  refine oV (ae V.s4 rfl bW rfl) ?_
  refine rO bP 2 rfl ?_
  refine aU (bZ V.s4 rfl rfl rfl (by exact mh) (by exact Nat.le_of_ble_eq_true rfl) rfl) ?_
  refine rO bP 6 rfl ?_
  refine oV (ae V.s9 rfl an rfl) ?_
  refine rO bP 5 rfl ?_
  refine oV (fe (aa.aY hxk) (aa.aY aa.jZ) rfl (show aq _ _ = some (.string (strOfNums aa.a7)) by unfold aa.a7; rfl) (decide_eq_false h2).symm) ?_
  refine rO bP 6 rfl ?_
  refine oV (fe (aa.aY hxk) (aa.aY aa.l7) rfl (show aq _ _ = some (.string (strOfNums aa.bA)) by unfold aa.bA; rfl) (decide_eq_false h3).symm) ?_
  refine rO bP 10 rfl ?_
  refine oV (ae V.s9 rfl an rfl) ?_
  refine ai (kB x.k hxk (by omega) true (decide_eq_true h4).symm) V.o5  rfl .nil rfl ?_
  rintro _ _ ⟨rfl, rfl⟩
  refine rO bP 2 rfl ?_
  refine ag rfl ?_
  refine oV (ae V.s9 rfl an rfl) ?_
  refine ag rfl ?_
  refine ai (CQ x.k hxk (by omega) true (decide_eq_true h5).symm) V.Nn  rfl .nil rfl ?_
  rintro _ _ ⟨rfl, rfl⟩
  refine rO bP 6 rfl ?_
  (exact ak (G := [ao b 137 [.bool pl, .bool tr, .bool id_, .bool id_]]) (aC rfl) (by rw [show (aa.de ⟨pl, tr, id_, ov⟩ x.ch) = _ from aa.EK (r := false) h1 h2 h3 (aa.Qy h5)]; exact ⟨rfl, rfl⟩) (sub (.cons ay .nil) cD))
 ·refine rC bP 4 rfl ?_
  refine oV (ae V.s9 rfl an rfl) ?_
  refine oV (fe (aa.aY hxk) (aa.aY aa.kz) rfl (show aq _ _ = some (.string (strOfNums aa.bQ)) by unfold aa.bQ; rfl) (decide_eq_false h1).symm) ?_
  refine rO bP 11 rfl ?_
  refine oV (ae V.s4 rfl bW rfl) ?_
  refine rO bP 2 rfl ?_
  refine aU (bZ V.s4 rfl rfl rfl (by exact mh) (by exact Nat.le_of_ble_eq_true rfl) rfl) ?_
  refine rO bP 6 rfl ?_
  refine oV (ae V.s9 rfl an rfl) ?_
  refine rO bP 5 rfl ?_
  refine oV (fe (aa.aY hxk) (aa.aY aa.jZ) rfl (show aq _ _ = some (.string (strOfNums aa.a7)) by unfold aa.a7; rfl) (decide_eq_false h2).symm) ?_
  refine rO bP 6 rfl ?_
  refine oV (fe (aa.aY hxk) (aa.aY aa.l7) rfl (show aq _ _ = some (.string (strOfNums aa.bA)) by unfold aa.bA; rfl) (decide_eq_false h3).symm) ?_
  refine rO bP 10 rfl ?_
  refine oV (ae V.s9 rfl an rfl) ?_
  refine ai (kB x.k hxk (by omega) true (decide_eq_true h4).symm) V.o5  rfl .nil rfl ?_
  rintro _ _ ⟨rfl, rfl⟩
  refine rO bP 2 rfl ?_
  refine ag rfl ?_
  refine oV (ae V.s9 rfl an rfl) ?_
  refine ag rfl ?_
  refine ai (CQ x.k hxk (by omega) false (decide_eq_false h5).symm) V.Nn  rfl .nil rfl ?_
  rintro _ _ ⟨rfl, rfl⟩
  refine rO bP 6 rfl ?_
  (exact ak (G := [ao b 137 [.bool pl, .bool tr, .bool id_, .bool id_]]) (aC rfl) (by rw [show (aa.de ⟨pl, tr, id_, ov⟩ x.ch) = _ from aa.EK (r := true) h1 h2 h3 (aa.QF h4 h5)]; exact ⟨rfl, rfl⟩) (sub (.cons ay .nil) cD))
end Go.Proofs.YtmaiakpjgomnpaaGreat
namespace Go.Proofs.YtmaiakpjgomnpaaGreat
open Go.Sl
theorem V.LP : aH Tryz.prog 80 = true := by kernel_rfl
theorem V.lx : cy Tryz.prog 88 1 = some 1 := by kernel_rfl
theorem V.NF : fO Tryz.prog 137 = some [(0, 1), (1, 1), (2, 1), (3, 1)] := by kernel_rfl
theorem V.Ql : dH Tryz.prog 137 = some ([.bool false, .bool false, .bool false, .bool false]) := by kernel_rfl
end Go.Proofs.YtmaiakpjgomnpaaGreat

/- Walks of functions that the law reaches, and what they lean on; no conditions. -/
import Derived.Test.YtmbljkghkcgejaaGreatM30
import Derived.Test.YtmbljkghkcgejaaGreatSl22
import Derived.KernelRfl
import Derived.Test.YtmbljkghkcgejaaGreatM42
import Derived.Test.YtmbljkghkcgejaaGreatM32
set_option linter.unusedVariables false
set_option linter.unusedSimpArgs false
set_option maxRecDepth 100000
namespace Go.Proofs.YtmbljkghkcgejaaGreat
open Go.Sl 
theorem bg : dJ Tryz.prog ⟨[22], [(75, 0, 0), (75, 3, 3), (75, 4, 4), (75, 5, 5)]⟩ = true := by kernel_rfl
attribute [local irreducible] ab.aO ab.tk ab.ord ab.bx ab.words ab.cF aa.fP aa.bG aa.bO aa.cY aa.hL aa.hD aa.hC aa.eZ aa.told aa.bF aa.iN aa.rep aa.eo aa.dr aa.sym aa.cC af.az aa.eG aa.cT aa.one aa.eE
set_option maxHeartbeats 2000000 in
theorem E5 (b bl : Nat) (sz mo : Int) (B : List Int) (s : aa.St) (n : Int) (hok : aa.Ok B mo s) (hm : mo < 1000000000) (hx : n < 1 ∨ s.ended = true) : aD Tryz.prog 22 [.pointer (some ⟨b, 0, none⟩), .int .i64 n] [MM b bl sz mo B s] (aK fun v G => v = .bool s.ended ∧ G = [MM b bl sz mo B s]) := by
 refine ax [(0, _), (1, _)] Tryz.func22 rfl Tryz.ntmps22 rfl rfl ?_
 intro w0 F
 have hro := hok.room
 refine gg dg (fun h hh => jr hh) ?_
 rintro ⟨li, di⟩ _
 dsimp only
 simp only [List.cons_append, List.nil_append]
 refine eK (fun h hh => im hh) ?_
 rintro ⟨po, co⟩ _
 dsimp only
 simp only [List.cons_append, List.nil_append]
 refine rT bg 2 rfl ?_
 refine fG rfl (cs := [_]) rfl rfl ?_
 intro b2
 refine fG rfl (cs := [_]) rfl rfl ?_
 intro b3
 refine rO bg 6 rfl ?_
 refine oV (ag V.iZ rfl bB rfl) ?_
 refine oV (de (v := .bool false) (fS Tryz.underlying50 rfl rfl) rfl) ?_
 refine oV (aB rfl) ?_
 refine al rfl ?_
 refine oV (ag V.iZ rfl bB rfl) ?_
 refine rO bg 2 rfl ?_
 refine al rfl ?_
 refine oV (ag V.dw rfl dE rfl) ?_
 refine al rfl ?_
 refine oV (de (v := .bool false) (fS Tryz.underlying71 rfl rfl) rfl) ?_
 refine rO bg 6 rfl ?_
 rcases (Classical.em (n < 1)) with h1 | h1
 ·refine rC bg 3 rfl ?_
  refine oV (ag V.s3 rfl ak rfl) ?_
  refine oV (ck (bZ rfl rfl) h1) ?_
  refine rO bg 11 rfl ?_
  refine oV (ag V.iZ rfl bB rfl) ?_
  refine rO bg 2 rfl ?_
  refine oV (ag V.s4 rfl dE rfl) ?_
  refine rO bg 5 rfl ?_
  exact an (bu rfl) ⟨rfl, rfl⟩ (Sl.Sub.trans ((aG (.cons aS (.cons aS .nil)) .refl (fun w0 h hh => cU (s := s) rfl hh)).trans (aG (au (.cons aS (.cons aS .nil))) .refl (fun w0 h hh => fm (s := s) hh))) (sub (au .nil) fg))
 ·refine rC bg 3 rfl ?_
  refine oV (ag V.s3 rfl ak rfl) ?_
  refine oV (bA (bZ rfl rfl) h1) ?_
  refine oV (aB rfl) ?_
  refine al rfl ?_
  refine oV (ag V.iZ rfl bB rfl) ?_
  refine rO bg 2 rfl ?_
  refine al rfl ?_
  refine oV (de (v := .bool true) (ag V.s4 rfl dE rfl) (by rw [hx.resolve_left h1])) ?_
  refine rO bg 6 rfl ?_
  refine oV (ag V.iZ rfl bB rfl) ?_
  refine rO bg 2 rfl ?_
  refine oV (ag V.s4 rfl dE rfl) ?_
  refine rO bg 5 rfl ?_
  exact an (bu rfl) ⟨rfl, rfl⟩ (Sl.Sub.trans ((aG (.cons aS (.cons aS .nil)) .refl (fun w0 h hh => cU (s := s) rfl hh)).trans (aG (au (.cons aS (.cons aS .nil))) .refl (fun w0 h hh => fm (s := s) hh))) (sub (au .nil) fg))
set_option maxHeartbeats 2000000 in
theorem D2 (b bl : Nat) (sz mo : Int) (B : List Int) (s : aa.St) (n : Int) (hl : B.length < 500000000) (hB : af.aY B) (hn : 1 ≤ n) (hok : aa.Ok B mo s) (hm : mo < 1000000000) (he : s.ended = false) (s2 : aa.St) (hlp : aa.Lp B mo s.out.length n s (.ok s2)) : aD Tryz.prog 22 [.pointer (some ⟨b, 0, none⟩), .int .i64 n] [MM b bl sz mo B s] (aK fun v G => v = .bool s2.ended ∧ G = [MM b bl sz mo B s2]) := by
 refine ax [(0, _), (1, _)] Tryz.func22 rfl Tryz.ntmps22 rfl rfl ?_
 intro w0 F
 have hro := hok.room
 refine gg dg (fun h hh => jr hh) ?_
 rintro ⟨li, di⟩ _
 dsimp only
 simp only [List.cons_append, List.nil_append]
 refine eK (fun h hh => im hh) ?_
 rintro ⟨po, co⟩ _
 dsimp only
 simp only [List.cons_append, List.nil_append]
 refine rT bg 2 rfl ?_
 refine fG rfl (cs := [_]) rfl rfl ?_
 intro b2
 refine fG rfl (cs := [_]) rfl rfl ?_
 intro b3
 refine rO bg 6 rfl ?_
 refine oV (ag V.iZ rfl bB rfl) ?_
 refine oV (de (v := .bool false) (fS Tryz.underlying50 rfl rfl) rfl) ?_
 refine oV (aB rfl) ?_
 refine al rfl ?_
 refine oV (ag V.iZ rfl bB rfl) ?_
 refine rO bg 2 rfl ?_
 refine al rfl ?_
 refine oV (ag V.dw rfl dE rfl) ?_
 refine al rfl ?_
 refine oV (de (v := .bool false) (fS Tryz.underlying71 rfl rfl) rfl) ?_
 refine rO bg 9 rfl ?_
 refine oV (ag V.s3 rfl ak rfl) ?_
 refine oV (bA (bZ rfl rfl) (by omega)) ?_
 refine oV (aB rfl) ?_
 refine al rfl ?_
 refine oV (ag V.iZ rfl bB rfl) ?_
 refine rO bg 2 rfl ?_
 refine al rfl ?_
 refine oV (de (v := .bool false) (ag V.s4 rfl dE rfl) (by rw [he])) ?_
 refine rO bg 8 rfl ?_
 refine oV (ag V.iZ rfl bB rfl) ?_
 refine rO bg 2 rfl ?_
 refine oV (ag V.eL rfl dE rfl) ?_
 refine oV (eF (ty' := 0) Tryz.underlying22 rfl) ?_
 refine fR V.z3 rfl ?_
 intro b5
 refine bM (bV V.s3 rfl rfl rfl (by exact dO) (by exact Nat.le_of_ble_eq_true rfl) rfl) ?_
 refine rO bg 3 rfl ?_
 refine bR (Sl.Sub.trans (aG (.cons dC (.cons dC .nil)) .refl (fun w0 h hh => cU (s := s) rfl hh)) (aG (au (.cons dC (.cons dC .nil))) .refl (fun w0 h hh => fm (s := s) hh))) ?_
 refine aW ?_
 refine oV (Ej (fs := []) (cs := [_, _, _]) rfl rfl) ?_
 refine ai (FK (f := 38) (cs := [.pointer (some ⟨b2, 0, none⟩), .pointer (some ⟨b5, 0, none⟩), .pointer (some ⟨b3, 0, none⟩)]) (R := fun G => G = [av b2 50 [.pointer (some ⟨b, 0, none⟩)], av b5 3 [.int .i64 (s.out.length : Int)], av b3 3 [.int .i64 n], MM b bl sz mo B s2]) (aD.NJ ((yO b2 b5 b3 b bl sz mo s.out.length n s (.ok s2) B hl hB hm (by omega) hok hlp).ok rfl)) V.Md) V.sU  rfl (.cons dC (.cons ar (.cons ar (au .nil)))) rfl ?_
 rintro _ _ ⟨rfl, rfl⟩
 refine rO bg 7 rfl ?_
 refine oV (bA (cI rfl rfl) (by decide)) ?_
 refine rO bg 6 rfl ?_
 refine gg dC (fun h hh => jr hh) ?_
 rintro ⟨li2, di2⟩ _
 dsimp only
 simp only [List.cons_append, List.nil_append]
 refine eK (fun h hh => im hh) ?_
 rintro ⟨po2, co2⟩ _
 dsimp only
 simp only [List.cons_append, List.nil_append]
 refine aW ?_
 refine oV (ag V.iZ rfl iz rfl) ?_
 refine rO bg 2 rfl ?_
 refine oV (ag V.s4 rfl ak rfl) ?_
 refine rO bg 4 rfl ?_
 exact an (bu rfl) ⟨rfl, rfl⟩ (Sl.Sub.trans ((aG (aE .nil) .refl (fun w0 h hh => cU (s := s2) rfl hh)).trans (aG (dU .nil) .refl (fun w0 h hh => fm (s := s2) hh))) (sub (au .nil) jj))
theorem Ic {b bl : Nat} {sz mo : Int} {w0 : World} {h : Hp} (hh : MX b bl sz mo w0 h) : ∃ i : Vx, True ∧ cA w0 [av b 75 [.pointer (some ⟨bl, 0, none⟩), .int .i64 sz, .int .i64 mo, i.v3, i.v4, i.v5, i.v6, i.v7, i.v8, i.v9, i.v10, i.v11, i.v12]] h := hh
theorem oo {b bl : Nat} {sz mo e : Int} {w0 : World} {h : Hp} (hh : MD b bl sz mo e w0 h) : ∃ i : Vx, True ∧ cA w0 [av b 75 [.pointer (some ⟨bl, 0, none⟩), .int .i64 sz, .int .i64 mo, .slice none 0 0, .bool true, .int .i64 e, i.v6, i.v7, i.v8, i.v9, i.v10, i.v11, i.v12]] h := hh
set_option maxHeartbeats 2000000 in
theorem EZ (b bl : Nat) (sz mo : Int) (B : List Int) (s : aa.St) (n : Int) (hl : B.length < 500000000) (hB : af.aY B) (hn : 1 ≤ n) (hok : aa.Ok B mo s) (hm : mo < 1000000000) (he : s.ended = false) (e : Int) (hE : e ≠ 0) (hlp : aa.Lp B mo s.out.length n s (.error e)) : aD Tryz.prog 22 [.pointer (some ⟨b, 0, none⟩), .int .i64 n] [MM b bl sz mo B s] (aK fun v G => v = .bool true ∧ G = [MD b bl sz mo e]) := by
 refine ax [(0, _), (1, _)] Tryz.func22 rfl Tryz.ntmps22 rfl rfl ?_
 intro w0 F
 have hro := hok.room
 refine gg dg (fun h hh => jr hh) ?_
 rintro ⟨li, di⟩ _
 dsimp only
 simp only [List.cons_append, List.nil_append]
 refine eK (fun h hh => im hh) ?_
 rintro ⟨po, co⟩ _
 dsimp only
 simp only [List.cons_append, List.nil_append]
 refine rT bg 2 rfl ?_
 refine fG rfl (cs := [_]) rfl rfl ?_
 intro b2
 refine fG rfl (cs := [_]) rfl rfl ?_
 intro b3
 refine rO bg 6 rfl ?_
 refine oV (ag V.iZ rfl bB rfl) ?_
 refine oV (de (v := .bool false) (fS Tryz.underlying50 rfl rfl) rfl) ?_
 refine oV (aB rfl) ?_
 refine al rfl ?_
 refine oV (ag V.iZ rfl bB rfl) ?_
 refine rO bg 2 rfl ?_
 refine al rfl ?_
 refine oV (ag V.dw rfl dE rfl) ?_
 refine al rfl ?_
 refine oV (de (v := .bool false) (fS Tryz.underlying71 rfl rfl) rfl) ?_
 refine rO bg 9 rfl ?_
 refine oV (ag V.s3 rfl ak rfl) ?_
 refine oV (bA (bZ rfl rfl) (by omega)) ?_
 refine oV (aB rfl) ?_
 refine al rfl ?_
 refine oV (ag V.iZ rfl bB rfl) ?_
 refine rO bg 2 rfl ?_
 refine al rfl ?_
 refine oV (de (v := .bool false) (ag V.s4 rfl dE rfl) (by rw [he])) ?_
 refine rO bg 8 rfl ?_
 refine oV (ag V.iZ rfl bB rfl) ?_
 refine rO bg 2 rfl ?_
 refine oV (ag V.eL rfl dE rfl) ?_
 refine oV (eF (ty' := 0) Tryz.underlying22 rfl) ?_
 refine fR V.z3 rfl ?_
 intro b5
 refine bM (bV V.s3 rfl rfl rfl (by exact dO) (by exact Nat.le_of_ble_eq_true rfl) rfl) ?_
 refine rO bg 3 rfl ?_
 refine bR (Sl.Sub.trans (aG (.cons dC (.cons dC .nil)) .refl (fun w0 h hh => cU (s := s) rfl hh)) (aG (au (.cons dC (.cons dC .nil))) .refl (fun w0 h hh => fm (s := s) hh))) ?_
 refine aW ?_
 refine oV (Ej (fs := []) (cs := [_, _, _]) rfl rfl) ?_
 refine ai (E4 (f := 38) (cs := [.pointer (some ⟨b2, 0, none⟩), .pointer (some ⟨b5, 0, none⟩), .pointer (some ⟨b3, 0, none⟩)]) (R := fun G => G = [av b2 50 [.pointer (some ⟨b, 0, none⟩)], av b5 3 [.int .i64 (s.out.length : Int)], av b3 3 [.int .i64 n], MX b bl sz mo]) ((yO b2 b5 b3 b bl sz mo s.out.length n s (.error e) B hl hB hm (by omega) hok hlp).err rfl) V.Md) V.sU  rfl (.cons dC (.cons ar (.cons ar (au .nil)))) rfl ?_
 rintro _ _ ⟨rfl, rfl⟩
 refine rO bg 7 rfl ?_
 refine oV (ck (cI rfl rfl) hE) ?_
 refine rO bg 3 rfl ?_
 refine gg dC (fun h hh => Ic hh) ?_
 rintro ⟨v3, v4, v5, v6, v7, v8, v9, v10, v11, v12⟩ _
 dsimp only
 simp only [List.cons_append, List.nil_append]
 refine wN [pz 0 [] [2], pz 0 [] [2], pz 0 [] [2], pz 0 [] [6], pz 1 [0] [], pz 17 [4] [], pz 49 [5] [], pz 123 [1] [], pz 251 [7] [], pz 507 [8, 3] [], pz 1023 [2] [], pz 2047 [10] [], pz 4095 [11] []] [⟨fun y => av b 75 [.pointer (some ⟨bl, 0, none⟩), .int .i64 sz, .int .i64 mo, v3, v4, v5, v6, v7, v8, v9, v10, v11, v12], none, some 6, []⟩, ⟨fun y => av b2 50 [.pointer (some ⟨b, 0, none⟩)], none, none, [0, 1, 2]⟩, ⟨fun y => av b5 3 [.int .i64 (s.out.length : Int)], none, none, []⟩, ⟨fun y => av b3 3 [.int .i64 n], none, none, []⟩, ⟨fun y => av b 75 [.pointer (some ⟨bl, 0, none⟩), .int .i64 sz, .int .i64 mo, v3, .bool true, v5, v6, v7, v8, v9, v10, v11, v12], some 6, some 9, []⟩, ⟨fun y => av b 75 [.pointer (some ⟨bl, 0, none⟩), .int .i64 sz, .int .i64 mo, v3, .bool true, .int .i64 e, v6, v7, v8, v9, v10, v11, v12], some 9, some 12, []⟩, ⟨fun y => av b 75 [.pointer (some ⟨bl, 0, none⟩), .int .i64 sz, .int .i64 mo, .slice none 0 0, .bool true, .int .i64 e, v6, v7, v8, v9, v10, v11, v12], some 12, none, []⟩] F V.mixed ?_
 iterate 3 refine nR (fun y FF hA => ag V.iZ rfl ak rfl) ?_
 refine nM ?_
 refine nN ?_
 refine nG V.AM ?_
 refine nE (fun y FF hA => cu (bV V.s4 rfl rfl rfl (by exact dO) (by exact Nat.le_of_ble_eq_true rfl) rfl) ⟨rfl, .refl _⟩) ?_
 refine nN ?_
 refine nG V.LG ?_
 refine nE (fun y FF hA => cu (bV V.r8 rfl rfl rfl (by exact dO) (by exact Nat.le_of_ble_eq_true rfl) rfl) ⟨rfl, .refl _⟩) ?_
 refine nN ?_
 refine nG V.mc ?_
 refine nE (fun y FF hA => cu (bV V.eL rfl rfl rfl (by exact dO) (by exact Nat.le_of_ble_eq_true rfl) rfl) ⟨rfl, .refl _⟩) ?_
 refine aM ?_
 intro y hA
 clear hA
 refine bp ?_
 refine bW _ (.cons (d := 2) rfl (.nil _)) ?_
 refine bR (M := av b2 50 [.pointer (some ⟨b, 0, none⟩)] :: av b5 3 [.int .i64 (s.out.length : Int)] :: av b3 3 [.int .i64 n] :: av b 75 [.pointer (some ⟨bl, 0, none⟩), .int .i64 sz, .int .i64 mo, .slice none 0 0, .bool true, .int .i64 e, v6, v7, v8, v9, v10, v11, v12] :: F) (fun _ _ h => h) ?_
 refine rC bg 2 rfl ?_
 refine oV (ag V.iZ rfl ak rfl) ?_
 refine rO bg 2 rfl ?_
 refine oV (ag V.s4 rfl fZ rfl) ?_
 refine rO bg 4 rfl ?_
 exact an (bu rfl) ⟨rfl, rfl⟩ (aG (.cons dC .nil) jj (fun w0 h hh => j6 hh))
set_option maxHeartbeats 2000000 in
theorem D5 (b bl : Nat) (sz mo : Int) (e : Int) (n : Int) : aD Tryz.prog 22 [.pointer (some ⟨b, 0, none⟩), .int .i64 n] [MD b bl sz mo e] (aK fun v G => v = .bool true ∧ G = [MD b bl sz mo e]) := by
 refine ax [(0, _), (1, _)] Tryz.func22 rfl Tryz.ntmps22 rfl rfl ?_
 intro w0 F
 refine gg dg (fun h hh => oo hh) ?_
 rintro ⟨v3, v4, v5, v6, v7, v8, v9, v10, v11, v12⟩ _
 dsimp only
 simp only [List.cons_append, List.nil_append]
 refine rT bg 2 rfl ?_
 refine fG rfl (cs := [_]) rfl rfl ?_
 intro b2
 refine fG rfl (cs := [_]) rfl rfl ?_
 intro b3
 refine rO bg 6 rfl ?_
 refine oV (ag V.iZ rfl bB rfl) ?_
 refine oV (de (v := .bool false) (fS Tryz.underlying50 rfl rfl) rfl) ?_
 refine oV (aB rfl) ?_
 refine al rfl ?_
 refine oV (ag V.iZ rfl bB rfl) ?_
 refine rO bg 2 rfl ?_
 refine al rfl ?_
 refine oV (ag V.dw rfl dE rfl) ?_
 refine al rfl ?_
 refine oV (de (v := .bool false) (fS Tryz.underlying71 rfl rfl) rfl) ?_
 refine rO bg 6 rfl ?_
 rcases (Classical.em (n < 1)) with h1 | h1
 ·refine rC bg 3 rfl ?_
  refine oV (ag V.s3 rfl ak rfl) ?_
  refine oV (ck (bZ rfl rfl) h1) ?_
  refine rO bg 11 rfl ?_
  refine oV (ag V.iZ rfl bB rfl) ?_
  refine rO bg 2 rfl ?_
  refine oV (ag V.s4 rfl dE rfl) ?_
  refine rO bg 5 rfl ?_
  exact an (bu rfl) ⟨rfl, rfl⟩ (aG (.cons aS .nil) fg (fun w0 h hh => j6 hh))
 ·refine rC bg 3 rfl ?_
  refine oV (ag V.s3 rfl ak rfl) ?_
  refine oV (bA (bZ rfl rfl) h1) ?_
  refine oV (aB rfl) ?_
  refine al rfl ?_
  refine oV (ag V.iZ rfl bB rfl) ?_
  refine rO bg 2 rfl ?_
  refine al rfl ?_
  refine oV (ag V.s4 rfl dE rfl) ?_
  refine rO bg 6 rfl ?_
  refine oV (ag V.iZ rfl bB rfl) ?_
  refine rO bg 2 rfl ?_
  refine oV (ag V.s4 rfl dE rfl) ?_
  refine rO bg 5 rfl ?_
  exact an (bu rfl) ⟨rfl, rfl⟩ (aG (.cons aS .nil) fg (fun w0 h hh => j6 hh))
theorem qo (b bl : Nat) (sz mo : Int) (B : List Int) (s : aa.St) : aD Tryz.prog 21 [.pointer (some ⟨b, 0, none⟩)] [MM b bl sz mo B s] (aK fun v G => v = .bool s.ended ∧ G = [MM b bl sz mo B s]) := by
 refine ax [(0, _)] Tryz.func21 rfl Tryz.ntmps21 rfl rfl ?_
 intro w0 F
 refine gg dg (fun h hh => jr hh) ?_
 rintro ⟨li, di⟩ _
 dsimp only
 simp only [List.cons_append, List.nil_append]
 refine eK (fun h hh => im hh) ?_
 rintro ⟨po, co⟩ _
 dsimp only
 simp only [List.cons_append, List.nil_append]
 refine rT bg 8 rfl ?_
 refine oV (de (v := .bool true) (tQ Tryz.underlying50 rfl rfl) rfl) ?_
 refine rO bg 4 rfl ?_
 refine al rfl ?_
 refine oV (ag V.s4 rfl ak rfl) ?_
 refine rO bg 5 rfl ?_
 exact an (bu rfl) ⟨rfl, rfl⟩ (Sl.Sub.trans ((aG (aE .nil) .refl (fun w0 h hh => cU (s := s) rfl hh)).trans (aG (dU .nil) .refl (fun w0 h hh => fm (s := s) hh))) (sub (au .nil) ao))
theorem rj (b bl : Nat) (sz mo : Int) (e : Int) : aD Tryz.prog 21 [.pointer (some ⟨b, 0, none⟩)] [MD b bl sz mo e] (aK fun v G => v = .bool true ∧ G = [MD b bl sz mo e]) := by
 refine ax [(0, _)] Tryz.func21 rfl Tryz.ntmps21 rfl rfl ?_
 intro w0 F
 refine gg dg (fun h hh => oo hh) ?_
 rintro ⟨v3, v4, v5, v6, v7, v8, v9, v10, v11, v12⟩ _
 dsimp only
 simp only [List.cons_append, List.nil_append]
 refine rT bg 8 rfl ?_
 refine oV (de (v := .bool true) (tQ Tryz.underlying50 rfl rfl) rfl) ?_
 refine rO bg 4 rfl ?_
 refine al rfl ?_
 refine oV (ag V.s4 rfl ak rfl) ?_
 refine rO bg 5 rfl ?_
 exact an (bu rfl) ⟨rfl, rfl⟩ (aG (au .nil) ao (fun w0 h hh => j6 hh))
theorem Ld (b bl : Nat) (sz mo : Int) (B : List Int) (s : aa.St) : aD Tryz.prog 25 [.pointer (some ⟨b, 0, none⟩)] [MM b bl sz mo B s] (aK fun v G => v = .int .i64 0 ∧ G = [MM b bl sz mo B s]) := by
 refine ax [(0, _)] Tryz.func25 rfl Tryz.ntmps25 rfl rfl ?_
 intro w0 F
 refine gg dg (fun h hh => jr hh) ?_
 rintro ⟨li, di⟩ _
 dsimp only
 simp only [List.cons_append, List.nil_append]
 refine eK (fun h hh => im hh) ?_
 rintro ⟨po, co⟩ _
 dsimp only
 simp only [List.cons_append, List.nil_append]
 refine rT bg 9 rfl ?_
 refine oV (de (v := .bool false) (fS Tryz.underlying50 rfl rfl) rfl) ?_
 refine rO bg 10 rfl ?_
 refine oV (ag V.r8 rfl ak rfl) ?_
 refine rO bg 4 rfl ?_
 exact an (bu rfl) ⟨rfl, rfl⟩ (Sl.Sub.trans ((aG (aE .nil) .refl (fun w0 h hh => cU (s := s) rfl hh)).trans (aG (dU .nil) .refl (fun w0 h hh => fm (s := s) hh))) (sub (au .nil) ao))
theorem C5 (b bl : Nat) (sz mo : Int) (e : Int) : aD Tryz.prog 25 [.pointer (some ⟨b, 0, none⟩)] [MD b bl sz mo e] (aK fun v G => v = .int .i64 e ∧ G = [MD b bl sz mo e]) := by
 refine ax [(0, _)] Tryz.func25 rfl Tryz.ntmps25 rfl rfl ?_
 intro w0 F
 refine gg dg (fun h hh => oo hh) ?_
 rintro ⟨v3, v4, v5, v6, v7, v8, v9, v10, v11, v12⟩ _
 dsimp only
 simp only [List.cons_append, List.nil_append]
 refine rT bg 9 rfl ?_
 refine oV (de (v := .bool false) (fS Tryz.underlying50 rfl rfl) rfl) ?_
 refine rO bg 10 rfl ?_
 refine oV (ag V.r8 rfl ak rfl) ?_
 refine rO bg 4 rfl ?_
 exact an (bu rfl) ⟨rfl, rfl⟩ (aG (au .nil) ao (fun w0 h hh => j6 hh))
theorem GW (b bl : Nat) (sz mo : Int) (B : List Int) (s : aa.St) (he : s.ended = false) : aD Tryz.prog 23 [.pointer (some ⟨b, 0, none⟩)] [MM b bl sz mo B s] (aK fun v G => v = .slice none 0 0 ∧ G = [MM b bl sz mo B s]) := by
 refine ax [(0, _)] Tryz.func23 rfl Tryz.ntmps23 rfl rfl ?_
 intro w0 F
 refine rT bg 9 rfl ?_
 refine ai (qo b bl sz mo B s) V.r3  rfl (au .nil) rfl ?_
 rintro _ _ ⟨rfl, rfl⟩
 rw [he]
 refine rO bg 11 rfl ?_
 exact an (bu rfl) ⟨rfl, rfl⟩ (sub (au .nil) ao)
set_option maxHeartbeats 1000000 in
theorem EB (b bl : Nat) (sz mo : Int) (B : List Int) (s : aa.St) (hok : aa.Ok B mo s) (hm : mo < 500000000) (he : s.ended = true) : aD Tryz.prog 23 [.pointer (some ⟨b, 0, none⟩)] [MM b bl sz mo B s] (aK fun v G => ∃ q c, v = .slice q s.out.length c ∧ G = [Row U5 q s.out.length c s.out, MM b bl sz mo B s]) := by
 refine ax [(0, _)] Tryz.func23 rfl Tryz.ntmps23 rfl rfl ?_
 intro w0 F
 refine rT bg 9 rfl ?_
 refine ai (qo b bl sz mo B s) V.r3  rfl (au .nil) rfl ?_
 rintro _ _ ⟨rfl, rfl⟩
 rw [he]
 refine rO bg 7 rfl ?_
 have hro := hok.room
 refine gg dg (fun h hh => jr hh) ?_
 rintro ⟨li, di⟩ _
 dsimp only
 simp only [List.cons_append, List.nil_append]
 refine eK (fun h hh => im hh) ?_
 rintro ⟨po, co⟩ _
 dsimp only
 simp only [List.cons_append, List.nil_append]
 refine rC bg 4 rfl ?_
 refine oV (ag V.eL rfl ak rfl) ?_
 refine ai (mQ po co s.out (Row U5 po s.out.length co s.out) (fun _ _ hh => hh.rd) (by omega)) V.w6  rfl (.cons ar .nil) rfl ?_
 rintro _ _ ⟨q10, c10, rfl, rfl⟩
 refine rO bg 4 rfl ?_
 exact an (bu rfl) ⟨q10, c10, rfl, rfl⟩ (Sl.Sub.trans ((aG (.cons aS (.cons ar .nil)) .refl (fun w0 h hh => cU (s := s) rfl hh)).trans (aG (au (.cons ar (.cons ar .nil))) .refl (fun w0 h hh => fm (s := s) hh))) (sub (.cons ar (au .nil)) ao))
set_option maxHeartbeats 1000000 in
theorem zW (b bl : Nat) (sz mo : Int) (e : Int) : aD Tryz.prog 23 [.pointer (some ⟨b, 0, none⟩)] [MD b bl sz mo e] (aK fun v G => ∃ q c, v = .slice q 0 c ∧ G = [Row U5 q 0 c [], MD b bl sz mo e]) := by
 refine ax [(0, _)] Tryz.func23 rfl Tryz.ntmps23 rfl rfl ?_
 intro w0 F
 refine rT bg 9 rfl ?_
 refine ai (rj b bl sz mo e) V.r3  rfl (au .nil) rfl ?_
 rintro _ _ ⟨rfl, rfl⟩
 refine rO bg 7 rfl ?_
 refine gg dg (fun h hh => oo hh) ?_
 rintro ⟨v3, v4, v5, v6, v7, v8, v9, v10, v11, v12⟩ _
 dsimp only
 simp only [List.cons_append, List.nil_append]
 refine eW (Row U5 none 0 0 []) (Row.nil _ _ _) ?_
 refine rC bg 4 rfl ?_
 refine oV (ag V.eL rfl bB rfl) ?_
 refine ai (mQ none 0 [] (Row U5 none 0 0 []) (fun _ _ hh => hh.rd) (by decide)) V.w6  rfl (au .nil) rfl ?_
 rintro _ _ ⟨q10, c10, rfl, rfl⟩
 refine rO bg 4 rfl ?_
 exact an (bu rfl) ⟨q10, c10, rfl, rfl⟩ (Sl.Sub.trans (aG (.cons aS .nil) .refl (fun w0 h hh => j6 hh)) (sub (.cons ar (au .nil)) cw))
theorem DZ (b bl : Nat) (sz mo : Int) (B : List Int) (s : aa.St) (he : s.ended = false) : aD Tryz.prog 24 [.pointer (some ⟨b, 0, none⟩)] [MM b bl sz mo B s] (aK fun v G => v = .int .i64 0 ∧ G = [MM b bl sz mo B s]) := by
 refine ax [(0, _)] Tryz.func24 rfl Tryz.ntmps24 rfl rfl ?_
 intro w0 F
 refine rT bg 9 rfl ?_
 refine ai (qo b bl sz mo B s) V.r3  rfl (au .nil) rfl ?_
 rintro _ _ ⟨rfl, rfl⟩
 rw [he]
 refine rO bg 18 rfl ?_
 exact an (bu rfl) ⟨rfl, rfl⟩ (sub (au .nil) ao)
theorem zc (b bl : Nat) (sz mo : Int) (e : Int) (hE : e ≠ 0) : aD Tryz.prog 24 [.pointer (some ⟨b, 0, none⟩)] [MD b bl sz mo e] (aK fun v G => v = .int .i64 0 ∧ G = [MD b bl sz mo e]) := by
 refine ax [(0, _)] Tryz.func24 rfl Tryz.ntmps24 rfl rfl ?_
 intro w0 F
 refine rT bg 9 rfl ?_
 refine ai (rj b bl sz mo e) V.r3  rfl (au .nil) rfl ?_
 rintro _ _ ⟨rfl, rfl⟩
 refine CB dg (fun h hh => oo hh) ?_
 rintro ⟨v3, v4, v5, v6, v7, v8, v9, v10, v11, v12⟩ _
 dsimp only
 simp only [List.cons_append, List.nil_append]
 refine rO bg 5 rfl ?_
 refine al rfl ?_
 refine oV (ag V.r8 rfl ak rfl) ?_
 refine al rfl ?_
 refine oV (ck (cI rfl rfl) hE) ?_
 refine rO bg 11 rfl ?_
 exact an (bu rfl) ⟨rfl, rfl⟩ (aG (au .nil) ao (fun w0 h hh => j6 hh))
set_option maxHeartbeats 1000000 in
theorem CT (b bl : Nat) (mo : Int) (B : List Int) (s : aa.St) (hl : B.length < 500000000) (hok : aa.Ok B mo s) (hm : mo < 1000000000) (he : s.ended = true) : aD Tryz.prog 24 [.pointer (some ⟨b, 0, none⟩)] [MM b bl (B.length : Int) mo B s] (aK fun v G => v = .int .i64 (((s.at_ + 7) / 8 : Nat) : Int) ∧ G = [MM b bl (B.length : Int) mo B s]) := by
 refine ax [(0, _)] Tryz.func24 rfl Tryz.ntmps24 rfl rfl ?_
 intro w0 F
 refine rT bg 9 rfl ?_
 refine ai (qo b bl (B.length : Int) mo B s) V.r3  rfl (au .nil) rfl ?_
 rintro _ _ ⟨rfl, rfl⟩
 rw [he]
 refine CB dg (fun h hh => jr hh) ?_
 rintro ⟨li, di⟩ _
 dsimp only
 simp only [List.cons_append, List.nil_append]
 refine GC (fun h hh => im hh) ?_
 rintro ⟨po, co⟩ _
 dsimp only
 simp only [List.cons_append, List.nil_append]
 have hat := hok.at_
 refine rO bg 5 rfl ?_
 refine al rfl ?_
 refine oV (ag V.r8 rfl ak rfl) ?_
 refine al rfl ?_
 refine oV (bA (cI rfl rfl) (by decide)) ?_
 refine rO bg 7 rfl ?_
 refine wN [pz 0 [] [0], pz 1 [0] [], pz 3 [1] [], pz 7 [2] [], pz 0 [] [0], pz 16 [4] [], pz 48 [5] [], pz 112 [6] [], pz 240 [7] [], pz 496 [8] [], pz 1023 [3, 9] [], pz 2047 [10] []] [⟨fun y => av b 75 [.pointer (some ⟨bl, 0, none⟩), .int .i64 (B.length : Int), .int .i64 mo, .slice po s.out.length co, .bool s.ended, .int .i64 0, .int .i64 s.kind, .int .i64 (s.left : Int), .bool s.last, li, di, .int .i64 (s.aq : Int), .int .i64 (s.aL : Int)], none, none, [3, 7]⟩, ⟨fun y => Row U5 po s.out.length co s.out, none, none, []⟩, ⟨fun y => LW bl B s.at_ [] 0, none, some 8, []⟩, ⟨fun y => CD li di s, none, none, []⟩, ⟨fun y => LW bl B s.at_ [] 0, some 8, none, []⟩] F V.mixed ?_
 refine nM ?_
 refine nN ?_
 refine nG V.Lo ?_
 refine nR (fun y FF hA => ag V.s3 rfl ak rfl) ?_
 refine nM ?_
 refine nN ?_
 refine nG V.fe ?_
 refine nR (fun y FF hA => ag V.dw rfl ak rfl) ?_
 refine nE (fun y FF hA => dx (Post := [LW bl B s.at_ [] 0]) (Jl bl B s.at_ [] 0 hl hok.at_) V.NF rfl (au .nil) (fun v G h => by rcases h with ⟨rfl, rfl⟩; exact ⟨rfl, .refl _⟩)) ?_
 refine nV (fun y hA L => ke rfl rfl (by omega) (lN (by omega) (by omega) (by omega))) ?_
 refine nV (fun y hA L => dD rfl rfl wI) ?_
 refine nA ?_
 refine aM ?_
 intro y hA
 clear hA
 refine bp ?_
 refine bW _ (.cons (d := 2) rfl (.nil _)) ?_
 refine bR (M := av b 75 [.pointer (some ⟨bl, 0, none⟩), .int .i64 (B.length : Int), .int .i64 mo, .slice po s.out.length co, .bool s.ended, .int .i64 0, .int .i64 s.kind, .int .i64 (s.left : Int), .bool s.last, li, di, .int .i64 (s.aq : Int), .int .i64 (s.aL : Int)] :: Row U5 po s.out.length co s.out :: CD li di s :: LW bl B s.at_ [] 0 :: F) (fun _ _ h => h) ?_
 refine rC bg 1 rfl ?_
 rw [show (B.length : Int) - (8 * (B.length : Int) - (s.at_ : Int)) / 8 = (((s.at_ + 7) / 8 : Nat) : Int) from by omega]
 exact an (bu rfl) ⟨rfl, rfl⟩ (Sl.Sub.trans ((aG (aE .nil) .refl (fun w0 h hh => cU (s := s) rfl hh)).trans (aG (au (.cons ar (.cons dg .nil))) .refl (fun w0 h hh => fm (s := s) hh))) (sub (au .nil) ao))
end Go.Proofs.YtmbljkghkcgejaaGreat
namespace Go.Proofs.YtmbljkghkcgejaaGreat
open Go.Sl 
theorem ft : dJ Tryz.prog ⟨[22], [(75, 4, 4), (75, 5, 5)]⟩ = true := by kernel_rfl
attribute [local irreducible] ab.aO ab.tk ab.ord ab.bx ab.words ab.cF aa.fP aa.bG aa.bO aa.cY aa.hL aa.hD aa.hC aa.eZ aa.told aa.bF aa.iN aa.rep aa.eo aa.dr aa.sym aa.cC af.az aa.eG aa.cT aa.one aa.eE
set_option maxHeartbeats 1000000 in
theorem Lc (p : Option Addr) (cap : Nat) (B : List Int) (R : ae) (hR : ∀ w0 h, R w0 h → bJ U5 p B.length B w0 h) (hl : B.length < 500000000) (mo : Int) (hm : 0 ≤ mo) : aD Tryz.prog 20 [.slice p B.length cap, .int .i64 mo] [R] (aK fun v G => ∃ b bl, v = .pointer (some ⟨b, 0, none⟩) ∧ G = [MM b bl (B.length : Int) mo B aa.start, R]) := by
 refine ax [(0, _), (1, _)] Tryz.func20 rfl Tryz.ntmps20 rfl rfl ?_
 intro w0 F
 refine rT ft 8 rfl ?_
 refine ai (vQ p cap B R hR hl) V.JE  rfl (au .nil) rfl ?_
 rintro _ _ ⟨bl7, rfl, rfl⟩
 refine rO ft 3 rfl ?_
 refine oV (eP V.JN V.z75 rfl (cs := [_, _, _, _, _, _, _, _, _, _, _, _, _]) rfl) ?_
 refine fG rfl (cs := [_, _, _, _, _, _, _, _, _, _, _, _, _]) rfl rfl ?_
 intro qx
 refine rO ft 7 rfl ?_
 refine oV (bA (bZ rfl rfl) (by omega)) ?_
 refine rO ft 6 rfl ?_
 refine eW (Row U5 none 0 0 []) (Row.nil _ _ _) ?_
 refine rC ft 6 rfl ?_
 exact an (bu rfl) ⟨qx, bl7, rfl, rfl⟩ (Sl.Sub.trans (Sl.Sub.trans (aG (.cons ar (au .nil)) .refl (fun w0 h hh => cU (s := aa.start) (li := .pointer none) (di := .pointer none) rfl hh)) (aG (aE .nil) .refl (fun w0 h hh => nH (s := aa.start) (by decide) hh))) (sub (aE .nil) ao))
set_option maxHeartbeats 1000000 in
theorem Is (p : Option Addr) (cap : Nat) (B : List Int) (R : ae) (hR : ∀ w0 h, R w0 h → bJ U5 p B.length B w0 h) (hl : B.length < 500000000) (mo : Int) (hm : mo < 0) : aD Tryz.prog 20 [.slice p B.length cap, .int .i64 mo] [R] (aK fun v G => ∃ b bl, v = .pointer (some ⟨b, 0, none⟩) ∧ G = [MD b bl (B.length : Int) mo 1, R]) := by
 refine ax [(0, _), (1, _)] Tryz.func20 rfl Tryz.ntmps20 rfl rfl ?_
 intro w0 F
 refine rT ft 8 rfl ?_
 refine ai (vQ p cap B R hR hl) V.JE  rfl (au .nil) rfl ?_
 rintro _ _ ⟨bl7, rfl, rfl⟩
 refine rO ft 3 rfl ?_
 refine oV (eP V.JN V.z75 rfl (cs := [_, _, _, _, _, _, _, _, _, _, _, _, _]) rfl) ?_
 refine fG rfl (cs := [_, _, _, _, _, _, _, _, _, _, _, _, _]) rfl rfl ?_
 intro qx
 refine rO ft 7 rfl ?_
 refine oV (ck (bZ rfl rfl) (by omega)) ?_
 refine rO ft 8 rfl ?_
 refine bM (bV V.s4 rfl rfl rfl (by exact dO) (by exact Nat.le_of_ble_eq_true rfl) rfl) ?_
 refine rO ft 2 rfl ?_
 refine bM (bV V.r8 rfl rfl rfl (by exact dO) (by exact Nat.le_of_ble_eq_true rfl) rfl) ?_
 refine rO ft 9 rfl ?_
 exact an (bu rfl) ⟨qx, bl7, rfl, rfl⟩ (Sl.Sub.trans (aG (au .nil) .refl (fun w0 h hh => j6 hh)) (sub (au (.cons ar .nil)) cw))
theorem aD.K7 {P : Program} {f : FuncId} {args : List Value} {Pre Gs : List ae} {v0 : Value} {A : ae} (h : aD P f args Pre (aK fun v G => v = v0 ∧ G = Gs)) (hA : ∀ w0, A w0 (fun _ => none)) : aD P f args Pre (aK fun v G => v = v0 ∧ G = A :: Gs) := fun w0 F w hi => (h w0 F w hi).mono fun e w' ⟨G, h1, v, h2, h3, h4⟩ => by
 subst h2; subst h3; subst h4
 exact ⟨A :: G, h1.sd (hA w0), _, rfl, rfl, rfl⟩
section
variable (b bl : Nat) (mo : Int) (B : List Int) (r : aa.Jt)
theorem G1 (sz : Int) : aD Tryz.prog 21 [.pointer (some ⟨b, 0, none⟩)] [MJ b bl sz mo B r] (aK fun v G => v = .bool (aa.ku r) ∧ G = [MJ b bl sz mo B r]) := by
 cases r with
 | ok s => exact qo b bl sz mo B s
 | error e => exact rj b bl sz mo e
theorem JX (sz : Int) : aD Tryz.prog 25 [.pointer (some ⟨b, 0, none⟩)] [MJ b bl sz mo B r] (aK fun v G => v = .int .i64 (aa.Bj r) ∧ G = [MJ b bl sz mo B r]) := by
 cases r with
 | ok s => exact Ld b bl sz mo B s
 | error e => exact C5 b bl sz mo e
theorem Ib (hl : B.length < 500000000) (hm : mo < 500000000) (hok : aa.uH B mo r) : aD Tryz.prog 24 [.pointer (some ⟨b, 0, none⟩)] [MJ b bl (B.length : Int) mo B r] (aK fun v G => v = .int .i64 (aa.rn r) ∧ G = [MJ b bl (B.length : Int) mo B r]) := by
 cases r with
 | ok s =>
  cases he : s.ended with
  | true => rw [show aa.rn (.ok s) = (((s.at_ + 7) / 8 : Nat) : Int) from if_pos he]; exact CT b bl mo B s hl hok (by omega) he
  | false => rw [show aa.rn (.ok s) = 0 from if_neg (by rw [he]; decide)]; exact DZ b bl (B.length : Int) mo B s he
 | error e => exact zc b bl (B.length : Int) mo e hok
theorem JK (sz : Int) (hm : mo < 500000000) (hok : aa.uH B mo r) : aD Tryz.prog 23 [.pointer (some ⟨b, 0, none⟩)] [MJ b bl sz mo B r] (aK fun v G => ∃ q c, v = .slice q (aa.qL r).length c ∧ G = [Row U5 q (aa.qL r).length c (aa.qL r), MJ b bl sz mo B r]) := by
 cases r with
 | ok s =>
  cases he : s.ended with
  | true => rw [show aa.qL (.ok s) = s.out from if_pos he]; exact EB b bl sz mo B s hok hm he
  | false => rw [show aa.qL (.ok s) = [] from if_neg (by rw [he]; decide)]; exact (aD.K7 (GW b bl sz mo B s he) (A := Row U5 none 0 0 []) (fun w0 => Row.nil U5 w0 _)).mono fun e G ⟨v, h1, h2, h3⟩ => ⟨v, h1, none, 0, h2, h3⟩
 | error e => exact zW b bl sz mo e
theorem HN (sz n : Int) (r' : aa.Jt) (hl : B.length < 500000000) (hB : af.aY B) (hm : mo < 500000000) (hok : aa.uH B mo r) (hst : aa.AG B mo n r r') : aD Tryz.prog 22 [.pointer (some ⟨b, 0, none⟩), .int .i64 n] [MJ b bl sz mo B r] (aK fun v G => v = .bool (aa.ku r') ∧ G = [MJ b bl sz mo B r']) := by
 rcases hst with ⟨hx, rfl⟩ | ⟨hn1, s, rfl, he, hl2⟩
 ·cases r' with
  | ok s => exact E5 b bl sz mo B s n hok (by omega) hx
  | error e => exact D5 b bl sz mo e n
 ·cases r' with
  | ok s2 => exact D2 b bl sz mo B s n hl hB hn1 hok (by omega) he s2 hl2
  | error e => exact EZ b bl sz mo B s n hl hB hn1 hok (by omega) he e (aa.F5 hl2 rfl) hl2
end
attribute [local irreducible] aa.qL aa.rn aa.Bj aa.ku aa.Ou
set_option maxHeartbeats 1000000 in
theorem GQ (p : Option Addr) (cap : Nat) (B : List Int) (R : ae) (hR : ∀ w0 h, R w0 h → bJ U5 p B.length B w0 h) (hl : B.length < 500000000) (hB : af.aY B) (mo : Int) (hm : 0 ≤ mo ∧ mo < 500000000) (q : List Int × Int × Int) (hq : aa.gU B mo q) : aD Tryz.prog 14 [.slice p B.length cap, .int .i64 mo] [R] (aK fun v G => ∃ qq cq, v = .tuple #[.slice qq q.1.length cq, .int .i64 q.2.1, .int .i64 q.2.2] ∧ G = [Row U5 qq q.1.length cq q.1, R]) := by
 refine ax [(0, _), (1, _)] Tryz.func14 rfl Tryz.ntmps14 rfl rfl ?_
 intro w0 F
 refine rT ft 11 rfl ?_
 refine ai (Lc p cap B R hR hl mo hm.1) V.Bq  rfl (au .nil) rfl ?_
 rintro _ _ ⟨iI, bl7, rfl, rfl⟩
 refine rO ft 5 rfl ?_
 refine bR (M := MJ iI bl7 (B.length : Int) mo B (.ok aa.start) :: R :: F) (fun _ _ h => h) ?_
 refine cx (fun (r : aa.Jt) => [(7, .pointer (some ⟨iI, 0, none⟩))]) (fun (r : aa.Jt) => MJ iI bl7 (B.length : Int) mo B r :: R :: F) (fun (r : aa.Jt) => aa.uH B mo r ∧ aa.CH B mo aa.start r) (fun (r : aa.Jt) => aa.CN B r) (i1 (.ok aa.start) ?_ (fO ln) (sub (aE .nil) ao)) ?_
 ·exact ⟨aa.oP hm.1, aa.eD.refl _ _ _⟩
 intro r
 rintro ⟨hok, hat⟩
 refine rL ft 4 rfl ?_
 refine ai (G1 iI bl7 mo B r (B.length : Int)) V.r3  rfl (au .nil) rfl ?_
 rintro _ _ ⟨rfl, rfl⟩
 refine oV (re rfl) ?_
 refine rO ft 2 rfl ?_
 refine tb rfl (fun h13 => ?_) (fun h13 => ?_)
 ·refine rC ft 3 rfl ?_
  have he : aa.ku r = false := by simpa using h13
  obtain ⟨r2, hst⟩ := aa.El hB hok 1048576
  have hgj := aa.AN hB hok hat hst
  refine rC ft 2 rfl ?_
  refine ai (HN iI bl7 mo B r (B.length : Int) 1048576 r2 hl hB hm.2 hok hst) V.Ni  rfl (au .nil) rfl ?_
  rintro _ _ ⟨rfl, rfl⟩
  refine rO ft 2 rfl ?_
  refine j1 (r2) ?_ (fO ln) (sub (aE .nil) ao)
  exact ⟨⟨hgj.ok, hgj.at_⟩, hgj.less he (by decide)⟩
 ·refine rC ft 6 rfl ?_
  have he : aa.ku r = true := by simpa using h13
  obtain rfl := hq.k8 (aa.G6 hm.1 hat he)
  refine rC ft 2 rfl ?_
  refine ai (JK iI bl7 mo B r (B.length : Int) hm.2 hok) V.kc  rfl (au .nil) rfl ?_
  rintro _ _ ⟨q17, c17, rfl, rfl⟩
  refine oV (aB rfl) ?_
  refine ai (Ib iI bl7 mo B r hl hm.2 hok) V.DQ  rfl (.cons ar .nil) rfl ?_
  rintro _ _ ⟨rfl, rfl⟩
  refine oV (aB rfl) ?_
  refine ai (JX iI bl7 mo B r (B.length : Int)) V.lf  rfl (au .nil) rfl ?_
  rintro _ _ ⟨rfl, rfl⟩
  refine rO ft 6 rfl ?_
  exact an (dL rfl rfl rfl) ⟨q17, c17, rfl, rfl⟩ (sub (.cons ar (.cons ar .nil)) cw)
set_option maxHeartbeats 1000000 in
theorem Ik (p : Option Addr) (cap : Nat) (B : List Int) (R : ae) (hR : ∀ w0 h, R w0 h → bJ U5 p B.length B w0 h) (hl : B.length < 500000000) (mo : Int) (hm : mo < 0) (q : List Int × Int × Int) (hq : aa.gU B mo q) : aD Tryz.prog 14 [.slice p B.length cap, .int .i64 mo] [R] (aK fun v G => ∃ qq cq, v = .tuple #[.slice qq q.1.length cq, .int .i64 q.2.1, .int .i64 q.2.2] ∧ G = [Row U5 qq q.1.length cq q.1, R]) := by
 obtain rfl := hq.k8 (.inl ⟨hm, rfl⟩)
 refine ax [(0, _), (1, _)] Tryz.func14 rfl Tryz.ntmps14 rfl rfl ?_
 intro w0 F
 refine rT ft 11 rfl ?_
 refine ai (Is p cap B R hR hl mo hm) V.Bq  rfl (au .nil) rfl ?_
 rintro _ _ ⟨iI, bl7, rfl, rfl⟩
 refine rO ft 5 rfl ?_
 refine cx (fun (z : Nat) => [(7, .pointer (some ⟨iI, 0, none⟩))]) (fun (z : Nat) => MD iI bl7 (B.length : Int) mo 1 :: R :: F) (fun (z : Nat) => True) (fun (z : Nat) => z) (i1 (0) ?_ (fO ln) (sub (aE .nil) ao)) ?_
 ·exact trivial
 intro z
 rintro -
 refine rL ft 4 rfl ?_
 refine ai (rj iI bl7 (B.length : Int) mo 1) V.r3  rfl (au .nil) rfl ?_
 rintro _ _ ⟨rfl, rfl⟩
 refine rO ft 12 rfl ?_
 refine ai (zW iI bl7 (B.length : Int) mo 1) V.kc  rfl (au .nil) rfl ?_
 rintro _ _ ⟨q17, c17, rfl, rfl⟩
 refine oV (aB rfl) ?_
 refine ai (zc iI bl7 (B.length : Int) mo 1 (by decide)) V.DQ  rfl (.cons ar .nil) rfl ?_
 rintro _ _ ⟨rfl, rfl⟩
 refine oV (aB rfl) ?_
 refine ai (C5 iI bl7 (B.length : Int) mo 1) V.lf  rfl (au .nil) rfl ?_
 rintro _ _ ⟨rfl, rfl⟩
 refine rO ft 6 rfl ?_
 exact an (dL rfl rfl rfl) ⟨q17, c17, rfl, rfl⟩ (sub (.cons ar (.cons ar .nil)) cw)
theorem Lh (p : Option Addr) (cap : Nat) (B : List Int) (R : ae) (hR : ∀ w0 h, R w0 h → bJ U5 p B.length B w0 h) (hl : B.length < 500000000) (hB : af.aY B) (mo : Int) (hm : mo < 500000000) (q : List Int × Int × Int) (hq : aa.gU B mo q) : aD Tryz.prog 14 [.slice p B.length cap, .int .i64 mo] [R] (aK fun v G => ∃ qq cq, v = .tuple #[.slice qq q.1.length cq, .int .i64 q.2.1, .int .i64 q.2.2] ∧ G = [Row U5 qq q.1.length cq q.1, R]) := by
 by_cases h : mo < 0
 ·exact Ik p cap B R hR hl mo h q hq
 ·exact GQ p cap B R hR hl hB mo ⟨by omega, hm⟩ q hq
end Go.Proofs.YtmbljkghkcgejaaGreat

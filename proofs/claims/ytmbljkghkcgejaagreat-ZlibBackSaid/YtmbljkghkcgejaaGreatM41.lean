/- Walks of functions that the law reaches, and what they lean on; no conditions. -/
import Derived.Test.YtmbljkghkcgejaaGreatM30
import Derived.Test.YtmbljkghkcgejaaGreatSl22
import Derived.KernelRfl
import Derived.Test.YtmbljkghkcgejaaGreatM40
import Derived.Test.YtmbljkghkcgejaaGreatM32
set_option linter.unusedVariables false
set_option linter.unusedSimpArgs false
set_option maxRecDepth 100000
namespace Go.Proofs.YtmbljkghkcgejaaGreat
open Go.Sl 
theorem cS : dJ Tryz.prog ⟨[77], [(75, 0, 0)]⟩ = true := by kernel_rfl
attribute [local irreducible] ab.aO ab.tk ab.ord ab.bx ab.words ab.cF aa.fP aa.bG aa.bO aa.cY aa.hL aa.hD aa.hC aa.eZ aa.told aa.bF aa.iN aa.rep
set_option maxHeartbeats 4000000 in
theorem CC (b bl : Nat) (sz mo : Int) (po : Option Addr) (no co : Nat) (li di : Value) (s : aa.St) (B : List Int) (a : Nat) (hl : B.length < 500000000) (hB : af.aY B) (ha : a ≤ 8 * B.length) : aD Tryz.prog 65 [.pointer (some ⟨b, 0, none⟩)] [av b 75 [.pointer (some ⟨bl, 0, none⟩), .int .i64 sz, .int .i64 mo, .slice po no co, .bool s.ended, .int .i64 0, .int .i64 s.kind, .int .i64 (s.left : Int), .bool s.last, li, di, .int .i64 (s.aq : Int), .int .i64 (s.aL : Int)], LW bl B a [] 0] (ib (aa.told B a) (fun x v G => ∃ l d, v = .tuple #[] ∧ G = [av b 75 [.pointer (some ⟨bl, 0, none⟩), .int .i64 sz, .int .i64 mo, .slice po no co, .bool s.ended, .int .i64 0, .int .i64 s.kind, .int .i64 (s.left : Int), .bool s.last, (.pointer (some ⟨l, 0, none⟩)), (.pointer (some ⟨d, 0, none⟩)), .int .i64 (s.aq : Int), .int .i64 (s.aL : Int)], LW bl B x.1 [] 0, HC l x.2.1, HC d x.2.2]) [MX b bl sz mo]) := by
 refine ax [(0, _)] Tryz.func65 rfl Tryz.ntmps65 rfl rfl ?_
 intro w0 F
 have hn1 := af.aU B a 5
 have hn2 := af.aU B (a + 5) 5
 have hn3 := af.aU B (a + 10) 4
 obtain ⟨he1, he2, he3, he4, he5, he6, he7, he8⟩ := aa.wj B a
 have hNN : aa.bO B a = aa.hL B a + aa.hD B a := aa.sG B a
 have hAA : aa.cY B a = a + 14 + 3 * aa.hC B a := aa.sJ B a
 rcases (aa.KS B.length a) with hx | ⟨hx1, hx⟩ | ⟨hx1, hx⟩ | h14
 ·refine rT cS 1 rfl ?_
  refine wN [pz 0 [] [0], pz 1 [0] [], pz 3 [1] [], pz 7 [2] [], pz 15 [3] [], pz 31 [4] [], pz 0 [] [0], pz 64 [6] [], pz 192 [7] [], pz 448 [8] [], pz 991 [9] [], pz 2015 [10] [], pz 0 [] [0], pz 4096 [12] [], pz 12288 [13] [], pz 28672 [14] [], pz 63455 [15] [], pz 128991 [16] [], pz 129023 [5] [], pz 393215 [11] [], pz 1048575 [17] []] [⟨fun y => av b 75 [.pointer (some ⟨bl, 0, none⟩), .int .i64 sz, .int .i64 mo, .slice po no co, .bool s.ended, .int .i64 0, .int .i64 s.kind, .int .i64 (s.left : Int), .bool s.last, li, di, .int .i64 (s.aq : Int), .int .i64 (s.aL : Int)], none, none, [3, 4, 9, 15]⟩, ⟨fun y => LW bl B a [] 0, none, none, [4]⟩] F V.mixed ?_
  refine nM ?_
  refine nN ?_
  refine nG V.fe ?_
  refine nR (fun y FF hA => ag V.dw rfl ak rfl) ?_
  refine bj (undef) _ _ (fun y => rfl) rfl (fun y => rfl) (fun y FF hA => fN (gk bl B a [] 0 5 hl hB (by omega) (by omega) (by omega)) V.gp rfl (.cons ar .nil) (by rintro _ _ ⟨rfl, rfl⟩; exact lu (aa.qp (by omega)) PE.end_ (aG (.cons ar .nil) (by exact xn (M := FF) (F := F)) (fun w0 h hh => cD hh)))) ?_
  refine bj (.bool true) _ _ (fun y => rfl) rfl (fun y => rfl) (fun y FF hA => (dj.fact (hA 4 (by decide)) (q := fun _ => False) rfl).elim) ?_
  refine nM ?_
  refine nN ?_
  refine nG V.fe ?_
  refine nR (fun y FF hA => ag V.dw rfl ak rfl) ?_
  refine bj (.bool true) _ _ (fun y => rfl) rfl (fun y => rfl) (fun y FF hA => (dj.fact (hA 4 (by decide)) (q := fun _ => False) rfl).elim) ?_
  refine bj (.bool true) _ _ (fun y => rfl) rfl (fun y => rfl) (fun y FF hA => (dj.fact (hA 4 (by decide)) (q := fun _ => False) rfl).elim) ?_
  refine nM ?_
  refine nN ?_
  refine nG V.fe ?_
  refine nR (fun y FF hA => ag V.dw rfl ak rfl) ?_
  refine bj (.bool true) _ _ (fun y => rfl) rfl (fun y => rfl) (fun y FF hA => (dj.fact (hA 4 (by decide)) (q := fun _ => False) rfl).elim) ?_
  refine bj (.bool true) _ _ (fun y => rfl) rfl (fun y => rfl) (fun y FF hA => (dj.fact (hA 4 (by decide)) (q := fun _ => False) rfl).elim) ?_
  refine bj (.bool true) _ _ (fun y => rfl) rfl (fun y => rfl) (fun y FF hA => (dj.fact (hA 4 (by decide)) (q := fun _ => False) rfl).elim) ?_
  refine bj (.bool true) _ _ (fun y => rfl) rfl (fun y => rfl) (fun y FF hA => (dj.fact (hA 4 (by decide)) (q := fun _ => False) rfl).elim) ?_
  refine bj (.bool true) _ _ (fun y => rfl) rfl (fun y => rfl) (fun y FF hA => (dj.fact (hA 4 (by decide)) (q := fun _ => False) rfl).elim) ?_
  refine aM ?_
  intro y hA
  exact (dj.fact (hA 4 (by exact Nat.le_of_ble_eq_true rfl)) (q := fun _ => False) rfl).elim
 ·refine rT cS 1 rfl ?_
  refine wN [pz 0 [] [0], pz 1 [0] [], pz 3 [1] [], pz 7 [2] [], pz 15 [3] [], pz 31 [4] [], pz 0 [] [0], pz 64 [6] [], pz 192 [7] [], pz 448 [8] [], pz 991 [9] [], pz 2015 [10] [], pz 0 [] [0], pz 4096 [12] [], pz 12288 [13] [], pz 28672 [14] [], pz 63455 [15] [], pz 128991 [16] [], pz 129023 [5] [], pz 393215 [11] [], pz 1048575 [17] []] [⟨fun y => av b 75 [.pointer (some ⟨bl, 0, none⟩), .int .i64 sz, .int .i64 mo, .slice po no co, .bool s.ended, .int .i64 0, .int .i64 s.kind, .int .i64 (s.left : Int), .bool s.last, li, di, .int .i64 (s.aq : Int), .int .i64 (s.aL : Int)], none, none, [3, 9, 10, 15]⟩, ⟨fun y => LW bl B a [] 0, none, some 4, []⟩, ⟨fun y => LW bl B (a + 5) [] 0, some 4, none, [10]⟩] F V.mixed ?_
  refine nM ?_
  refine nN ?_
  refine nG V.fe ?_
  refine nR (fun y FF hA => ag V.dw rfl ak rfl) ?_
  refine nE (fun y FF hA => dx (Post := [LW bl B (a + 5) [] 0]) (fC bl B a [] 0 5 hl hB (by omega) (by omega)) V.gp rfl (au .nil) (fun v G h => by rcases h with ⟨rfl, rfl⟩; exact ⟨rfl, .refl _⟩)) ?_
  refine nV (fun y hA L => bU rfl rfl wI) ?_
  refine nM ?_
  refine nN ?_
  refine nG V.fe ?_
  refine nR (fun y FF hA => ag V.dw rfl ak rfl) ?_
  refine bj (undef) _ _ (fun y => rfl) rfl (fun y => rfl) (fun y FF hA => fN (gk bl B (a + 5) [] 0 5 hl hB (by omega) (by omega) (by omega)) V.gp rfl (.cons ar .nil) (by rintro _ _ ⟨rfl, rfl⟩; exact lu (aa.qp (by omega)) PE.end_ (aG (.cons ar .nil) (by exact xn (M := FF) (F := F)) (fun w0 h hh => cD hh)))) ?_
  refine bj (.bool true) _ _ (fun y => rfl) rfl (fun y => rfl) (fun y FF hA => (dj.fact (hA 10 (by decide)) (q := fun _ => False) rfl).elim) ?_
  refine nM ?_
  refine nN ?_
  refine nG V.fe ?_
  refine nR (fun y FF hA => ag V.dw rfl ak rfl) ?_
  refine bj (.bool true) _ _ (fun y => rfl) rfl (fun y => rfl) (fun y FF hA => (dj.fact (hA 10 (by decide)) (q := fun _ => False) rfl).elim) ?_
  refine bj (.bool true) _ _ (fun y => rfl) rfl (fun y => rfl) (fun y FF hA => (dj.fact (hA 10 (by decide)) (q := fun _ => False) rfl).elim) ?_
  refine bj (.bool true) _ _ (fun y => rfl) rfl (fun y => rfl) (fun y FF hA => (dj.fact (hA 10 (by decide)) (q := fun _ => False) rfl).elim) ?_
  refine bj (.bool true) _ _ (fun y => rfl) rfl (fun y => rfl) (fun y FF hA => (dj.fact (hA 10 (by decide)) (q := fun _ => False) rfl).elim) ?_
  refine bj (.bool true) _ _ (fun y => rfl) rfl (fun y => rfl) (fun y FF hA => (dj.fact (hA 10 (by decide)) (q := fun _ => False) rfl).elim) ?_
  refine aM ?_
  intro y hA
  exact (dj.fact (hA 10 (by exact Nat.le_of_ble_eq_true rfl)) (q := fun _ => False) rfl).elim
 ·refine rT cS 1 rfl ?_
  refine wN [pz 0 [] [0], pz 1 [0] [], pz 3 [1] [], pz 7 [2] [], pz 15 [3] [], pz 31 [4] [], pz 0 [] [0], pz 64 [6] [], pz 192 [7] [], pz 448 [8] [], pz 991 [9] [], pz 2015 [10] [], pz 0 [] [0], pz 4096 [12] [], pz 12288 [13] [], pz 28672 [14] [], pz 63455 [15] [], pz 128991 [16] [], pz 129023 [5] [], pz 393215 [11] [], pz 1048575 [17] []] [⟨fun y => av b 75 [.pointer (some ⟨bl, 0, none⟩), .int .i64 sz, .int .i64 mo, .slice po no co, .bool s.ended, .int .i64 0, .int .i64 s.kind, .int .i64 (s.left : Int), .bool s.last, li, di, .int .i64 (s.aq : Int), .int .i64 (s.aL : Int)], none, none, [3, 9, 15, 16]⟩, ⟨fun y => LW bl B a [] 0, none, some 4, []⟩, ⟨fun y => LW bl B (a + 5) [] 0, some 4, some 10, []⟩, ⟨fun y => LW bl B (a + 10) [] 0, some 10, none, [16]⟩] F V.mixed ?_
  refine nM ?_
  refine nN ?_
  refine nG V.fe ?_
  refine nR (fun y FF hA => ag V.dw rfl ak rfl) ?_
  refine nE (fun y FF hA => dx (Post := [LW bl B (a + 5) [] 0]) (fC bl B a [] 0 5 hl hB (by omega) (by omega)) V.gp rfl (au .nil) (fun v G h => by rcases h with ⟨rfl, rfl⟩; exact ⟨rfl, .refl _⟩)) ?_
  refine nV (fun y hA L => bU rfl rfl wI) ?_
  refine nM ?_
  refine nN ?_
  refine nG V.fe ?_
  refine nR (fun y FF hA => ag V.dw rfl ak rfl) ?_
  refine nE (fun y FF hA => dx (Post := [LW bl B (a + 10) [] 0]) (fC bl B (a + 5) [] 0 5 hl hB (by omega) (by omega)) V.gp rfl (au .nil) (fun v G h => by rcases h with ⟨rfl, rfl⟩; exact ⟨rfl, .refl _⟩)) ?_
  refine nV (fun y hA L => bU rfl rfl wI) ?_
  refine nM ?_
  refine nN ?_
  refine nG V.fe ?_
  refine nR (fun y FF hA => ag V.dw rfl ak rfl) ?_
  refine bj (undef) _ _ (fun y => rfl) rfl (fun y => rfl) (fun y FF hA => fN (gk bl B (a + 10) [] 0 4 hl hB (by omega) (by omega) (by omega)) V.gp rfl (.cons ar .nil) (by rintro _ _ ⟨rfl, rfl⟩; exact lu (aa.qp (by omega)) PE.end_ (aG (.cons ar .nil) (by exact xn (M := FF) (F := F)) (fun w0 h hh => cD hh)))) ?_
  refine bj (.bool true) _ _ (fun y => rfl) rfl (fun y => rfl) (fun y FF hA => (dj.fact (hA 16 (by decide)) (q := fun _ => False) rfl).elim) ?_
  refine bj (.bool true) _ _ (fun y => rfl) rfl (fun y => rfl) (fun y FF hA => (dj.fact (hA 16 (by decide)) (q := fun _ => False) rfl).elim) ?_
  refine bj (.bool true) _ _ (fun y => rfl) rfl (fun y => rfl) (fun y FF hA => (dj.fact (hA 16 (by decide)) (q := fun _ => False) rfl).elim) ?_
  refine bj (.bool true) _ _ (fun y => rfl) rfl (fun y => rfl) (fun y FF hA => (dj.fact (hA 16 (by decide)) (q := fun _ => False) rfl).elim) ?_
  refine aM ?_
  intro y hA
  exact (dj.fact (hA 16 (by exact Nat.le_of_ble_eq_true rfl)) (q := fun _ => False) rfl).elim
 ·refine rT cS 1 rfl ?_
  refine wN [pz 0 [] [0], pz 1 [0] [], pz 3 [1] [], pz 7 [2] [], pz 15 [3] [], pz 31 [4] [], pz 0 [] [0], pz 64 [6] [], pz 192 [7] [], pz 448 [8] [], pz 991 [9] [], pz 2015 [10] [], pz 0 [] [0], pz 4096 [12] [], pz 12288 [13] [], pz 28672 [14] [], pz 63455 [15] [], pz 128991 [16] [], pz 129023 [5] [], pz 393215 [11] [], pz 1048575 [17] []] [⟨fun y => av b 75 [.pointer (some ⟨bl, 0, none⟩), .int .i64 sz, .int .i64 mo, .slice po no co, .bool s.ended, .int .i64 0, .int .i64 s.kind, .int .i64 (s.left : Int), .bool s.last, li, di, .int .i64 (s.aq : Int), .int .i64 (s.aL : Int)], none, none, [3, 9, 15]⟩, ⟨fun y => LW bl B a [] 0, none, some 4, []⟩, ⟨fun y => LW bl B (a + 5) [] 0, some 4, some 10, []⟩, ⟨fun y => LW bl B (a + 10) [] 0, some 10, some 16, []⟩, ⟨fun y => LW bl B (a + 14) [] 0, some 16, none, []⟩] F V.mixed ?_
  refine nM ?_
  refine nN ?_
  refine nG V.fe ?_
  refine nR (fun y FF hA => ag V.dw rfl ak rfl) ?_
  refine nE (fun y FF hA => dx (Post := [LW bl B (a + 5) [] 0]) (fC bl B a [] 0 5 hl hB (by omega) (by omega)) V.gp rfl (au .nil) (fun v G h => by rcases h with ⟨rfl, rfl⟩; exact ⟨rfl, .refl _⟩)) ?_
  refine nV (fun y hA L => bU rfl rfl wI) ?_
  refine nM ?_
  refine nN ?_
  refine nG V.fe ?_
  refine nR (fun y FF hA => ag V.dw rfl ak rfl) ?_
  refine nE (fun y FF hA => dx (Post := [LW bl B (a + 10) [] 0]) (fC bl B (a + 5) [] 0 5 hl hB (by omega) (by omega)) V.gp rfl (au .nil) (fun v G h => by rcases h with ⟨rfl, rfl⟩; exact ⟨rfl, .refl _⟩)) ?_
  refine nV (fun y hA L => bU rfl rfl wI) ?_
  refine nM ?_
  refine nN ?_
  refine nG V.fe ?_
  refine nR (fun y FF hA => ag V.dw rfl ak rfl) ?_
  refine nE (fun y FF hA => dx (Post := [LW bl B (a + 14) [] 0]) (fC bl B (a + 10) [] 0 4 hl hB (by omega) (by omega)) V.gp rfl (au .nil) (fun v G h => by rcases h with ⟨rfl, rfl⟩; exact ⟨rfl, .refl _⟩)) ?_
  refine nV (fun y hA L => bU rfl rfl wI) ?_
  iterate 3 refine nA ?_
  refine aM ?_
  intro y hA
  clear hA
  refine bp ?_
  refine bW _ (.cons (d := 0) rfl (.cons (d := 2) rfl (.cons (d := 3) rfl (.cons (d := 4) rfl (.nil _))))) ?_
  refine bR (M := av b 75 [.pointer (some ⟨bl, 0, none⟩), .int .i64 sz, .int .i64 mo, .slice po no co, .bool s.ended, .int .i64 0, .int .i64 s.kind, .int .i64 (s.left : Int), .bool s.last, li, di, .int .i64 (s.aq : Int), .int .i64 (s.aL : Int)] :: LW bl B (a + 14) [] 0 :: F) (fun _ _ h => h) ?_
  rcases (aa.Ka (aa.hL B a ≤ 286) (aa.hD B a ≤ 30)) with ⟨hq1, hq2⟩ | ⟨hq1, hq2⟩ | hq1
  ·refine rC cS 1 rfl ?_
   rw [he1, he2, he3]
   refine rC cS 2 rfl ?_
   refine oV (ck (iM rfl rfl) (by omega)) ?_
   refine rO cS 2 rfl ?_
   refine al rfl ?_
   refine oV (ck (iM rfl rfl) (by omega)) ?_
   refine oV (mS rfl rfl) ?_
   refine ai (kE 4) V.kt  rfl .nil rfl ?_
   rintro _ _ ⟨rfl, rfl⟩
   refine rO cS 4 rfl ?_
   refine ai (Ah 0 19 (by omega)) V.FO  rfl .nil rfl ?_
   rintro _ _ ⟨p37, c37, rfl, rfl⟩
   refine rO cS 6 rfl ?_
   refine ai (Iw) V.NT  rfl .nil rfl ?_
   rintro _ _ ⟨p38, rfl, rfl⟩
   refine oV (aB rfl) ?_
   refine oV (gh (aa.hC B a) _ V.aF rfl ⟨_, rfl⟩ rfl (by omega) (by omega)) ?_
   refine rO cS 5 rfl ?_
   rw [← aa.xG B (a + 14)]
   rw [show LW bl B (a + 14) [] 0 = LW bl B (a + 14 + 3 * 0) [] 0 from rfl]
   refine cx (fun (k : Nat) => [(0, .pointer (some ⟨b, 0, none⟩)), (2, .int .i64 (aa.hL B a : Int)), (3, .int .i64 (aa.hD B a : Int)), (5, .slice p37 19 c37), (40, .slice p38 (aa.hC B a) 19), (41, .int .i64 ((aa.hC B a) : Int)), (42, .int .i64 (k : Int))]) (fun (k : Nat) => Row I3 p37 19 c37 (aa.fP B (a + 14) k) :: Row I3 p38 19 19 aa.dv :: av b 75 [.pointer (some ⟨bl, 0, none⟩), .int .i64 sz, .int .i64 mo, .slice po no co, .bool s.ended, .int .i64 0, .int .i64 s.kind, .int .i64 (s.left : Int), .bool s.last, li, di, .int .i64 (s.aq : Int), .int .i64 (s.aL : Int)] :: LW bl B (a + 14 + 3 * k) [] 0 :: F) (fun (k : Nat) => k ≤ aa.hC B a ∧ a + 14 + 3 * k ≤ 8 * B.length) (fun (k : Nat) => aa.hC B a - k) (i1 (0) ?_ (kr (aX ln)) (sub (.cons ar (dU .nil)) ao)) ?_
   ·exact ⟨Nat.zero_le _, by omega⟩
   intro k
   rintro ⟨hk, hk2⟩
   refine rL cS 6 rfl ?_
   refine aj rfl (fun h43 => ?_) (fun h43 => ?_)
   ·refine rC cS 5 rfl ?_
    have hoo : 0 ≤ I3.g aa.dv (k : Int) ∧ I3.g aa.dv (k : Int) < 19 := aa.ue (k := k) (by omega)
    refine aW ?_
    refine oV (oA (c := (I3)) V.aF rfl rfl (by exact (own bB).take _ (by omega)) (by omega) (by omega)) ?_
    refine oV (xL V.s3 (own bB)) ?_
    refine rO cS 3 rfl ?_
    rcases (Nat.lt_or_ge (8 * B.length) ((a + 14 + 3 * k) + 3)) with hx | hx
    ·refine rC cS 6 rfl ?_
     refine oV (ag V.dw rfl dE rfl) ?_
     refine c0 (gk bl B (a + 14 + 3 * k) [] 0 3 hl hB (by omega) (by omega) (by omega)) V.gp rfl (.cons dC .nil) ?_
     rintro _ _ ⟨rfl, rfl⟩
     refine (fo (dz (dz (fo (dz ?_)))))
     exact dS (aa.xz h14 ⟨hq1, hq2⟩ (by omega)) PE.end_ (aG (.cons dC .nil) jj (fun w0 h hh => cD hh))
    ·refine rC cS 6 rfl ?_
     refine oV (ag V.dw rfl dE rfl) ?_
     refine ai (fC bl B (a + 14 + 3 * k) [] 0 3 hl hB (by omega) (by omega)) V.gp  rfl (.cons dC .nil) rfl ?_
     rintro _ _ ⟨rfl, rfl⟩
     refine oV (xI V.aF (own bB)) ?_
     refine bM (eb (c := (I3)) (_) V.s3 rfl rfl rfl (by exact uT) (by omega) (by omega) rfl rfl) ?_
     refine bN cS 7 rfl (by omega) ?_
     rw [show (aa.fP B (a + 14) k).set (I3.g aa.dv (k : Int)).toNat (af.az B (a + 14 + 3 * k) 3) = aa.fP B (a + 14) (k + 1) from (aa.yd B (a + 14) k).symm]
     rw [show a + 14 + 3 * k + 3 = a + 14 + 3 * (k + 1) from by omega]
     refine j1 (k + 1) ?_ (kr (aX ln)) (sub (.cons ar (.cons ar (.cons ar (au .nil)))) ao)
     exact ⟨⟨by omega, by omega⟩, by omega⟩
   ·refine rC cS 5 rfl ?_
    rcases (Classical.em (ab.aO (aa.bG B a) = 0)) with hy | hy
    ·refine rC cS 1 rfl ?_
     have hkC : k = aa.hC B a := by omega
     rw [show aa.fP B (a + 14) k = aa.bG B a from by rw [hkC]; exact (aa.oT B a).symm, show a + 14 + 3 * k = aa.cY B a from by omega]
     have hta : aa.cY B a ≤ 8 * B.length := by omega
     refine rC cS 2 rfl ?_
     refine ai (mO p37 19 c37 (aa.bG B a) (Row I3 p37 19 c37 (aa.bG B a)) (aa.eY B a).symm (fun _ _ hh => kz (aa.eY B a).symm hh) hy) V.sZ  rfl (au .nil) rfl ?_
     rintro _ _ ⟨bc, rfl, rfl⟩
     refine rO cS 10 rfl ?_
     refine eW (Row I3 none 0 0 []) (Row.nil _ _ _) ?_
     refine mR (fun (l : List Int) (f : Nat) (x : Nat) (pr : Option Addr) (cr : Nat) => [(0, .pointer (some ⟨b, 0, none⟩)), (2, .int .i64 (aa.hL B a : Int)), (3, .int .i64 (aa.hD B a : Int)), (8, .pointer (some ⟨bc, 0, none⟩)), (9, .slice pr l.length cr)]) (fun (l : List Int) (f : Nat) (x : Nat) (pr : Option Addr) (cr : Nat) => Row I3 pr l.length cr l :: HC bc (aa.bG B a) :: av b 75 [.pointer (some ⟨bl, 0, none⟩), .int .i64 sz, .int .i64 mo, .slice po no co, .bool s.ended, .int .i64 0, .int .i64 s.kind, .int .i64 (s.left : Int), .bool s.last, li, di, .int .i64 (s.aq : Int), .int .i64 (s.aL : Int)] :: LW bl B x [] 0 :: F) (fun (l : List Int) (f : Nat) (x : Nat) (pr : Option Addr) (cr : Nat) => aa.eZ B (aa.bG B a) (aa.bO B a) (aa.bO B a) [] (aa.cY B a) = aa.eZ B (aa.bG B a) (aa.bO B a) f l x ∧ (aa.bO B a) ≤ f + l.length ∧ l.length ≤ (aa.bO B a) ∧ x ≤ 8 * B.length) (fun (l : List Int) (f : Nat) (x : Nat) (pr : Option Addr) (cr : Nat) => (aa.bO B a) - l.length) (i5 ([]) ((aa.bO B a)) ((aa.cY B a)) (none) (0) ?_ (aX ln) (sub (aE (.cons aS (.cons aS .nil))) fg)) ?_
     ·exact ⟨rfl, Nat.le_add_right _ _, Nat.zero_le _, hta⟩
     intro l f x pr cr
     rintro ⟨hg, hf, hlt, hx⟩
     refine uN cS 11 rfl (by omega) ?_
     refine aj rfl (fun h62 => ?_) (fun h62 => ?_)
     ·refine rC cS 3 rfl ?_
      rcases (aa.Ac B (aa.bG B a) l x) with ⟨e, hs⟩ | ⟨sy, x2, e, hs, hr⟩ | ⟨sy, x2, xx, nn, x3, hs, hr⟩
      ·refine rC cS 7 rfl ?_
       refine oV (ag V.dw rfl dE rfl) ?_
       refine c0 ((o6 bc (aa.bG B a) bl B x [] 0 hy hl hB hx).err hs) V.w3 rfl (.cons ar (.cons aS .nil)) ?_
       rintro _ _ ⟨hp, rfl⟩
       refine (dz (fo (dz (fo (dz ?_)))))
       exact dS (aa.iQ h14 ⟨hq1, hq2⟩ hta hy (hg.trans (aa.iE (by omega) hf (aa.pj hs)))) hp (aG (.cons ar .nil) cw (fun w0 h hh => cD hh))
      ·refine rC cS 1 rfl ?_
       have hsz := aa.ql hy (by rw [aa.eY]; omega) hs
       rw [aa.eY] at hsz
       have hsy : 0 ≤ sy ∧ sy ≤ 18 := by omega
       have hx2 : x2 ≤ 8 * B.length := by omega
       refine rC cS 6 rfl ?_
       refine oV (ag V.dw rfl dE rfl) ?_
       refine ai ((o6 bc (aa.bG B a) bl B x [] 0 hy hl hB hx).ok hs) V.w3  rfl (.cons ar (.cons aS .nil)) rfl ?_
       rintro _ _ ⟨rfl, rfl⟩
       refine oV (aB rfl) ?_
       refine c0 ((GI b bl sz mo po no co li di s B x2 sy pr cr l hsy hl hB hx2 (by omega)).err hr) V.vJ rfl (.cons dC (.cons ar (.cons ar .nil))) ?_
       rintro _ _ ⟨hp, rfl⟩
       refine (dz (fo (dz (fo (dz ?_)))))
       exact dS (aa.iQ h14 ⟨hq1, hq2⟩ hta hy (hg.trans (aa.iE (by omega) hf (aa.jX hs hr)))) hp (sub (au .nil) cw)
      ·refine rC cS 1 rfl ?_
       have hsz := aa.ql hy (by rw [aa.eY]; omega) hs
       rw [aa.eY] at hsz
       have hsy : 0 ≤ sy ∧ sy ≤ 18 := by omega
       have hx2 : x2 ≤ 8 * B.length := by omega
       have hrg := aa.wy hx2 hr
       refine rC cS 6 rfl ?_
       refine oV (ag V.dw rfl dE rfl) ?_
       refine ai ((o6 bc (aa.bG B a) bl B x [] 0 hy hl hB hx).ok hs) V.w3  rfl (.cons ar (.cons aS .nil)) rfl ?_
       rintro _ _ ⟨rfl, rfl⟩
       refine oV (aB rfl) ?_
       refine ai ((GI b bl sz mo po no co li di s B x2 sy pr cr l hsy hl hB hx2 (by omega)).ok hr) V.vJ  rfl (.cons dC (.cons ar (.cons ar .nil))) rfl ?_
       rintro _ _ ⟨rfl, rfl⟩
       refine rO cS 12 rfl ?_
       refine ai (DG xx nn (by omega)) V.FO  rfl .nil rfl ?_
       rintro _ _ ⟨p78, c78, rfl, rfl⟩
       refine bQ (c := (I3)) V.aF V.z3 rfl rfl rfl rfl dC (own ak) (by omega) rfl ?_
       intro p79 c79
       refine rO cS 3 rfl ?_
       rcases (Nat.lt_or_ge (aa.bO B a) (l.length + nn.toNat)) with hbg | hbg
       ·refine cy cS 6 rfl (by omega) ?_
        refine oV (bA (iM rfl rfl) (by omega)) ?_
        refine c0 (ik 4) V.kt rfl .nil ?_
        rintro _ _ ⟨rfl, rfl⟩
        refine (fo (dz (fo (dz ?_))))
        exact dS (aa.iQ h14 ⟨hq1, hq2⟩ hta hy (hg.trans (aa.nz (by omega) hf (aa.gj hs hr) (by rw [List.length_append, List.length_replicate]; omega)))) (PE.no (by decide)) (aG (.cons aS .nil) kT (fun w0 h hh => cD hh))
       ·refine cy cS 6 rfl (by omega) ?_
        refine oV (ck (iM rfl rfl) (by omega)) ?_
        refine ai (kE 4) V.kt  rfl .nil rfl ?_
        rintro _ _ ⟨rfl, rfl⟩
        refine rO cS 2 rfl ?_
        rw [show l.length + nn.toNat = (l ++ List.replicate nn.toNat xx).length from by rw [List.length_append, List.length_replicate]]
        have hll : (l ++ List.replicate nn.toNat xx).length = l.length + nn.toNat := by rw [List.length_append, List.length_replicate]
        refine j5 (l ++ List.replicate nn.toNat xx) (f - 1) (x3) (_) (_) ?_ (aX ln) (sub (au (.cons dC (.cons ar (.cons ar .nil)))) cw)
        exact ⟨⟨hg.trans (aa.ka (by omega) hf (aa.gj hs hr) (by omega)), by omega, by omega, by omega⟩, by omega⟩
     ·refine rC cS 5 rfl ?_
      rcases (aa.Ka (ab.aO (l.take (aa.hL B a)) = 0) (ab.aO (l.drop (aa.hL B a)) = 0)) with ⟨hc1, hc2⟩ | ⟨hc1, hc2⟩ | hc1
      ·refine rC cS 1 rfl ?_
       have hlt : l.length = aa.bO B a := by omega
       have hz := hg.trans (aa.kK (B := B) (c := aa.bG B a) (f := f) (a := x) (show aa.bO B a ≤ l.length by omega))
       refine vA (p := pr) (n := l.length) (cap := cr) (l := l) (c := I3) ak fun hcap => ?_
       refine mL [pz 0 [] [0], pz 0 [] [0], pz 0 [] [9], pz 0 [] [2], pz 12 [2, 3] [], pz 28 [4] [], pz 0 [] [9], pz 0 [] [2], pz 192 [6, 7] [], pz 508 [8] [], pz 1021 [0] [], pz 2045 [10] [], pz 4093 [11, 5] [], pz 8191 [1] [], pz 16383 [13] [], pz 32767 [14, 9] []] [⟨fun y => Row I3 pr l.length cr l, none, some 5, []⟩, ⟨fun y => HC bc (aa.bG B a), none, none, []⟩, ⟨fun y => av b 75 [.pointer (some ⟨bl, 0, none⟩), .int .i64 sz, .int .i64 mo, .slice po no co, .bool s.ended, .int .i64 0, .int .i64 s.kind, .int .i64 (s.left : Int), .bool s.last, li, di, .int .i64 (s.aq : Int), .int .i64 (s.aL : Int)], none, some 12, []⟩, ⟨fun y => LW bl B x [] 0, none, none, []⟩, ⟨fun y => HC (iH (y 5)) (l.take (aa.hL B a)), some 5, none, []⟩, ⟨fun y => Row I3 pr l.length cr l, some 5, some 9, []⟩, ⟨fun y => HC (iH (y 9)) (l.drop (aa.hL B a)), some 9, none, []⟩, ⟨fun y => Row I3 pr l.length cr l, some 9, none, []⟩, ⟨fun y => av b 75 [.pointer (some ⟨bl, 0, none⟩), .int .i64 sz, .int .i64 mo, .slice po no co, .bool s.ended, .int .i64 0, .int .i64 s.kind, .int .i64 (s.left : Int), .bool s.last, .pointer (some ⟨iH (y 5), 0, none⟩), di, .int .i64 (s.aq : Int), .int .i64 (s.aL : Int)], some 12, some 15, []⟩, ⟨fun y => av b 75 [.pointer (some ⟨bl, 0, none⟩), .int .i64 sz, .int .i64 mo, .slice po no co, .bool s.ended, .int .i64 0, .int .i64 s.kind, .int .i64 (s.left : Int), .bool s.last, .pointer (some ⟨iH (y 5), 0, none⟩), .pointer (some ⟨iH (y 9), 0, none⟩), .int .i64 (s.aq : Int), .int .i64 (s.aL : Int)], some 15, none, []⟩] F V.mixed (by kernel_rfl) rfl (fun _ => .refl _) (dV _ (dV _ (dV _ (dV _ (ea _ rfl (by intro y y2 h; simp only [h 5 (.inl rfl)]) (ea _ rfl (by intro y y2 h; rfl) (ea _ rfl (by intro y y2 h; simp only [h 9 (.inl rfl)]) (ea _ rfl (by intro y y2 h; rfl) (ea _ rfl (by intro y y2 h; simp only [h 5 (.inr (by decide))]) (ea _ rfl (by intro y y2 h; simp only [h 5 (.inr (by decide)), h 9 (.inr (by decide))]) jb)))))))))) ?_
       iterate 4 refine nM ?_
       refine nV (fun y hA L => gh (aa.hL B a) _ V.aF rfl ⟨_, rfl⟩ rfl (by omega) (by omega)) ?_
       refine fD (fun y v => .pointer (some ⟨iH v, 0, none⟩)) (fun y v => True) _ _ (fun y v => [HC (iH v) (l.take (aa.hL B a)), Row I3 pr l.length cr l]) _ (fun y => rfl) (fun y => rfl) (fun y => rfl) (fun y => rfl) (fun y FF hA => sI (A := fun z => HC z (l.take (aa.hL B a))) (Post := [Row I3 pr l.length cr l]) (mO pr (aa.hL B a) cr (l.take (aa.hL B a)) (Row I3 pr l.length cr l) (by (rw [List.length_take]; omega)) (fun _ _ hh => nu rfl (by omega) hh) hc1) V.sZ rfl (au .nil)) (by intros; rfl) (by intros; rfl) (by intros; rfl) (by intro y y2 h; simp only [h 5 (.inl rfl)]) (by intro y y2 h; rfl) ?_
       iterate 2 refine nM ?_
       refine nV (fun y hA L => fz (aa.hL B a) _ _ V.aF rfl ⟨_, rfl⟩ ⟨rfl, rfl⟩ rfl (by omega) (by omega) (by omega)) ?_
       refine fD (fun y v => .pointer (some ⟨iH v, 0, none⟩)) (fun y v => True) _ _ (fun y v => [HC (iH v) (l.drop (aa.hL B a)), Row I3 pr l.length cr l]) _ (fun y => rfl) (fun y => rfl) (fun y => rfl) (fun y => rfl) (fun y FF hA => sI (A := fun z => HC z (l.drop (aa.hL B a))) (Post := [Row I3 pr l.length cr l]) (mO (gK pr (aa.hL B a) cr 1) (l.length - (aa.hL B a)) (cr - (aa.hL B a)) (l.drop (aa.hL B a)) (Row I3 pr l.length cr l) (by rw [List.length_drop]) (fun _ _ hh => lR rfl (by omega) hcap hh) hc2) V.sZ rfl (au .nil)) (by intros; rfl) (by intros; rfl) (by intros; rfl) (by intro y y2 h; simp only [h 9 (.inl rfl)]) (by intro y y2 h; rfl) ?_
       refine nN ?_
       refine nG V.AQ ?_
       refine nE (fun y FF hA => cu (bV V.uU rfl rfl rfl (by exact dO) (by exact Nat.le_of_ble_eq_true rfl) rfl) ⟨rfl, .refl _⟩) ?_
       refine nN ?_
       refine nG V.xc ?_
       refine nE (fun y FF hA => cu (bV V.uU rfl rfl rfl (by exact dO) (by exact Nat.le_of_ble_eq_true rfl) rfl) ⟨rfl, .refl _⟩) ?_
       refine aM ?_
       intro y hA
       clear hA
       refine bp ?_
       refine bW _ (.cons (d := 9) rfl (.nil _)) ?_
       refine bR (M := HC bc (aa.bG B a) :: LW bl B x [] 0 :: HC (iH (y 5)) (l.take (aa.hL B a)) :: HC (iH (y 9)) (l.drop (aa.hL B a)) :: Row I3 pr l.length cr l :: av b 75 [.pointer (some ⟨bl, 0, none⟩), .int .i64 sz, .int .i64 mo, .slice po no co, .bool s.ended, .int .i64 0, .int .i64 s.kind, .int .i64 (s.left : Int), .bool s.last, .pointer (some ⟨iH (y 5), 0, none⟩), .pointer (some ⟨iH (y 9), 0, none⟩), .int .i64 (s.aq : Int), .int .i64 (s.aL : Int)] :: F) (fun _ _ h => h) ?_
       generalize (iH (y 5)) = q92
       generalize (iH (y 9)) = q96
       rcases (Classical.em (l.getD 256 0 = 0)) with hend | hend
       ·have hnn := aa.yV hc1 256
        rw [aa.getD_take (show 256 < aa.hL B a by omega)] at hnn
        refine rC cS 2 rfl ?_
        refine oV (xI V.aF (own iz)) ?_
        refine oV (xL V.s3 (own iz)) ?_
        refine oV (bA (cB rfl rfl) (by rw [show I3.g l 256 = l.getD 256 0 from rfl]; omega)) ?_
        refine c0 (ik 4) V.kt rfl .nil ?_
        rintro _ _ ⟨rfl, rfl⟩
        skip
        exact dS (aa.mA h14 ⟨hq1, hq2⟩ hta hy hz (.inr (.inr hend))) (PE.no (by decide)) (aG (.cons qy .nil) F3 (fun w0 h hh => cD hh))
       ·have hnn := aa.yV hc1 256
        rw [aa.getD_take (show 256 < aa.hL B a by omega)] at hnn
        refine rC cS 2 rfl ?_
        refine oV (xI V.aF (own iz)) ?_
        refine oV (xL V.s3 (own iz)) ?_
        refine oV (ck (cB rfl rfl) (by rw [show I3.g l 256 = l.getD 256 0 from rfl]; omega)) ?_
        refine ai (kE 4) V.kt  rfl .nil rfl ?_
        rintro _ _ ⟨rfl, rfl⟩
        refine bC ?_
        exact hG (aa.tC h14 ⟨hq1, hq2⟩ hta hy hz hc1 hc2 hend) dN ⟨_, _, rfl, rfl⟩ (sub (.cons qy (.cons ar (.cons ar (.cons ar .nil)))) fg)
      ·refine rC cS 1 rfl ?_
       have hlt : l.length = aa.bO B a := by omega
       have hz := hg.trans (aa.kK (B := B) (c := aa.bG B a) (f := f) (a := x) (show aa.bO B a ≤ l.length by omega))
       refine vA (p := pr) (n := l.length) (cap := cr) (l := l) (c := I3) ak fun hcap => ?_
       refine mL [pz 0 [] [0], pz 0 [] [0], pz 0 [] [9], pz 0 [] [2], pz 12 [2, 3] [], pz 28 [4] [], pz 0 [] [9], pz 0 [] [2], pz 192 [6, 7] [], pz 508 [8] [], pz 1021 [0] [], pz 2045 [10] [], pz 4093 [11, 5] [], pz 8191 [1] [], pz 16383 [13] [], pz 32767 [14, 9] []] [⟨fun y => Row I3 pr l.length cr l, none, some 5, []⟩, ⟨fun y => HC bc (aa.bG B a), none, none, []⟩, ⟨fun y => av b 75 [.pointer (some ⟨bl, 0, none⟩), .int .i64 sz, .int .i64 mo, .slice po no co, .bool s.ended, .int .i64 0, .int .i64 s.kind, .int .i64 (s.left : Int), .bool s.last, li, di, .int .i64 (s.aq : Int), .int .i64 (s.aL : Int)], none, none, [9]⟩, ⟨fun y => LW bl B x [] 0, none, none, []⟩, ⟨fun y => HC (iH (y 5)) (l.take (aa.hL B a)), some 5, none, []⟩, ⟨fun y => Row I3 pr l.length cr l, some 5, none, [9]⟩] F V.mixed (by kernel_rfl) rfl (fun _ => .refl _) (dV _ (dV _ (dV _ (dV _ (ea _ rfl (by intro y y2 h; simp only [h 5 (.inl rfl)]) (ea _ rfl (by intro y y2 h; rfl) jb)))))) ?_
       iterate 4 refine nM ?_
       refine nV (fun y hA L => gh (aa.hL B a) _ V.aF rfl ⟨_, rfl⟩ rfl (by omega) (by omega)) ?_
       refine fD (fun y v => .pointer (some ⟨iH v, 0, none⟩)) (fun y v => True) _ _ (fun y v => [HC (iH v) (l.take (aa.hL B a)), Row I3 pr l.length cr l]) _ (fun y => rfl) (fun y => rfl) (fun y => rfl) (fun y => rfl) (fun y FF hA => sI (A := fun z => HC z (l.take (aa.hL B a))) (Post := [Row I3 pr l.length cr l]) (mO pr (aa.hL B a) cr (l.take (aa.hL B a)) (Row I3 pr l.length cr l) (by (rw [List.length_take]; omega)) (fun _ _ hh => nu rfl (by omega) hh) hc1) V.sZ rfl (au .nil)) (by intros; rfl) (by intros; rfl) (by intros; rfl) (by intro y y2 h; simp only [h 5 (.inl rfl)]) (by intro y y2 h; rfl) ?_
       iterate 2 refine nM ?_
       refine nV (fun y hA L => fz (aa.hL B a) _ _ V.aF rfl ⟨_, rfl⟩ ⟨rfl, rfl⟩ rfl (by omega) (by omega) (by omega)) ?_
       refine bj (undef) _ _ (fun y => rfl) rfl (fun y => rfl) (fun y FF hA => fN (uA (gK pr (aa.hL B a) cr 1) (l.length - (aa.hL B a)) (cr - (aa.hL B a)) (l.drop (aa.hL B a)) (Row I3 pr l.length cr l) (by rw [List.length_drop]) (fun _ _ hh => lR rfl (by omega) hcap hh) hc2) V.sZ rfl (.cons ar .nil) (by rintro _ _ ⟨hp, rfl⟩; exact lu (aa.mA h14 ⟨hq1, hq2⟩ hta hy hz (.inr (.inl hc2))) hp (aG (au .nil) (by exact vj (M := FF) (F := F)) (fun w0 h hh => cD hh)))) ?_
       refine bj (.bool true) _ _ (fun y => rfl) rfl (fun y => rfl) (fun y FF hA => (dj.fact (hA 9 (by decide)) (q := fun _ => False) rfl).elim) ?_
       refine bj (.bool true) _ _ (fun y => rfl) rfl (fun y => rfl) (fun y FF hA => (dj.fact (hA 9 (by decide)) (q := fun _ => False) rfl).elim) ?_
       refine bj (.bool true) _ _ (fun y => rfl) rfl (fun y => rfl) (fun y FF hA => (dj.fact (hA 9 (by decide)) (q := fun _ => False) rfl).elim) ?_
       refine bj (.bool true) _ _ (fun y => rfl) rfl (fun y => rfl) (fun y FF hA => (dj.fact (hA 9 (by decide)) (q := fun _ => False) rfl).elim) ?_
       refine bj (.bool true) _ _ (fun y => rfl) rfl (fun y => rfl) (fun y FF hA => (dj.fact (hA 9 (by decide)) (q := fun _ => False) rfl).elim) ?_
       refine bj (.bool true) _ _ (fun y => rfl) rfl (fun y => rfl) (fun y FF hA => (dj.fact (hA 9 (by decide)) (q := fun _ => False) rfl).elim) ?_
       refine aM ?_
       intro y hA
       exact (dj.fact (hA 9 (by exact Nat.le_of_ble_eq_true rfl)) (q := fun _ => False) rfl).elim
      ·refine rC cS 1 rfl ?_
       have hlt : l.length = aa.bO B a := by omega
       have hz := hg.trans (aa.kK (B := B) (c := aa.bG B a) (f := f) (a := x) (show aa.bO B a ≤ l.length by omega))
       refine vA (p := pr) (n := l.length) (cap := cr) (l := l) (c := I3) ak fun hcap => ?_
       refine wN [pz 0 [] [0], pz 0 [] [0], pz 0 [] [9], pz 0 [] [2], pz 12 [2, 3] [], pz 28 [4] [], pz 0 [] [9], pz 0 [] [2], pz 192 [6, 7] [], pz 508 [8] [], pz 1021 [0] [], pz 2045 [10] [], pz 4093 [11, 5] [], pz 8191 [1] [], pz 16383 [13] [], pz 32767 [14, 9] []] [⟨fun y => Row I3 pr l.length cr l, none, none, [5]⟩, ⟨fun y => HC bc (aa.bG B a), none, none, []⟩, ⟨fun y => av b 75 [.pointer (some ⟨bl, 0, none⟩), .int .i64 sz, .int .i64 mo, .slice po no co, .bool s.ended, .int .i64 0, .int .i64 s.kind, .int .i64 (s.left : Int), .bool s.last, li, di, .int .i64 (s.aq : Int), .int .i64 (s.aL : Int)], none, none, [5]⟩, ⟨fun y => LW bl B x [] 0, none, none, []⟩] F V.mixed ?_
       iterate 4 refine nM ?_
       refine nV (fun y hA L => gh (aa.hL B a) _ V.aF rfl ⟨_, rfl⟩ rfl (by omega) (by omega)) ?_
       refine bj (undef) _ _ (fun y => rfl) rfl (fun y => rfl) (fun y FF hA => fN (uA pr (aa.hL B a) cr (l.take (aa.hL B a)) (Row I3 pr l.length cr l) (by (rw [List.length_take]; omega)) (fun _ _ hh => nu rfl (by omega) hh) hc1) V.sZ rfl (au .nil) (by rintro _ _ ⟨hp, rfl⟩; exact lu (aa.mA h14 ⟨hq1, hq2⟩ hta hy hz (.inl hc1)) hp (aG (au .nil) (by exact vj (M := FF) (F := F)) (fun w0 h hh => cD hh)))) ?_
       iterate 2 refine nM ?_
       refine nV (fun y hA L => fz (aa.hL B a) _ _ V.aF rfl ⟨_, rfl⟩ ⟨rfl, rfl⟩ rfl (by omega) (by omega) (by omega)) ?_
       refine bj (.bool true) _ _ (fun y => rfl) rfl (fun y => rfl) (fun y FF hA => (dj.fact (hA 5 (by decide)) (q := fun _ => False) rfl).elim) ?_
       refine bj (.bool true) _ _ (fun y => rfl) rfl (fun y => rfl) (fun y FF hA => (dj.fact (hA 5 (by decide)) (q := fun _ => False) rfl).elim) ?_
       refine bj (.bool true) _ _ (fun y => rfl) rfl (fun y => rfl) (fun y FF hA => (dj.fact (hA 5 (by decide)) (q := fun _ => False) rfl).elim) ?_
       refine bj (.bool true) _ _ (fun y => rfl) rfl (fun y => rfl) (fun y FF hA => (dj.fact (hA 5 (by decide)) (q := fun _ => False) rfl).elim) ?_
       refine bj (.bool true) _ _ (fun y => rfl) rfl (fun y => rfl) (fun y FF hA => (dj.fact (hA 5 (by decide)) (q := fun _ => False) rfl).elim) ?_
       refine bj (.bool true) _ _ (fun y => rfl) rfl (fun y => rfl) (fun y FF hA => (dj.fact (hA 5 (by decide)) (q := fun _ => False) rfl).elim) ?_
       refine bj (.bool true) _ _ (fun y => rfl) rfl (fun y => rfl) (fun y FF hA => (dj.fact (hA 5 (by decide)) (q := fun _ => False) rfl).elim) ?_
       refine aM ?_
       intro y hA
       exact (dj.fact (hA 5 (by exact Nat.le_of_ble_eq_true rfl)) (q := fun _ => False) rfl).elim
    ·refine rC cS 1 rfl ?_
     have hkC : k = aa.hC B a := by omega
     rw [show aa.fP B (a + 14) k = aa.bG B a from by rw [hkC]; exact (aa.oT B a).symm, show a + 14 + 3 * k = aa.cY B a from by omega]
     have hta : aa.cY B a ≤ 8 * B.length := by omega
     refine rC cS 2 rfl ?_
     refine c0 (uA p37 19 c37 (aa.bG B a) (Row I3 p37 19 c37 (aa.bG B a)) (aa.eY B a).symm (fun _ _ hh => kz (aa.eY B a).symm hh) hy) V.sZ rfl (au .nil) ?_
     rintro _ _ ⟨hp, rfl⟩
     refine (dz ?_)
     exact dS (aa.xC h14 ⟨hq1, hq2⟩ hta hy) hp (aG (.cons ar .nil) fg (fun w0 h hh => cD hh))
  ·refine rC cS 1 rfl ?_
   rw [he1, he2, he3]
   refine rC cS 2 rfl ?_
   refine oV (ck (iM rfl rfl) (by omega)) ?_
   refine rO cS 2 rfl ?_
   refine al rfl ?_
   refine oV (bA (iM rfl rfl) (by omega)) ?_
   refine oV (mS rfl rfl) ?_
   refine c0 (ik 4) V.kt rfl .nil ?_
   rintro _ _ ⟨rfl, rfl⟩
   refine (dz ?_)
   exact dS (aa.qQ h14 (by omega)) (PE.no (by decide)) (aG (au .nil) cw (fun w0 h hh => cD hh))
  ·refine rC cS 1 rfl ?_
   rw [he1, he2, he3]
   refine rC cS 2 rfl ?_
   refine oV (bA (iM rfl rfl) (by omega)) ?_
   refine rO cS 4 rfl ?_
   refine c0 (ik 4) V.kt rfl .nil ?_
   rintro _ _ ⟨rfl, rfl⟩
   refine (dz ?_)
   exact dS (aa.qQ h14 (by omega)) (PE.no (by decide)) (aG (au .nil) cw (fun w0 h hh => cD hh))
end Go.Proofs.YtmbljkghkcgejaaGreat
namespace Go.Sl
def CD (li di : Value) (s : aa.St) : ae := fun w0 h => s.kind ≤ 0 ∨ ∃ l d, li = .pointer (some ⟨l, 0, none⟩) ∧ di = .pointer (some ⟨d, 0, none⟩) ∧ cA w0 [HC l s.lits, HC d s.cH] h
structure Pv where
 li : Value
 di : Value
def MM (b bl : Nat) (sz mo : Int) (B : List Int) (s : aa.St) : ae := fun w0 h => ∃ i : Pv, True ∧ cA w0 [MS b bl sz mo i.li i.di s, LW bl B s.at_ [] 0, CD i.li i.di s] h
theorem uM {w0 : World} {Bs : List ae} {A : ae} {h : Hp} (hA : ∀ h, cA w0 Bs h → A w0 h) (hh : cA w0 Bs h) : cA w0 [A] h := ⟨h, fun _ => none, fun _ => .inr rfl, Hp.le_refl _, (fun _ _ e => by cases e), hA h hh, trivial⟩
theorem o9 {w0 : World} {X : ae} {L L' : List ae} {h : Hp} (k : ∀ h, cA w0 L h → cA w0 L' h) (hh : cA w0 (X :: L) h) : cA w0 (X :: L') h := by
 obtain ⟨h1, h2, a, b, c, d, e⟩ := hh
 exact ⟨h1, h2, a, b, c, d, k h2 e⟩
theorem nH {b bl : Nat} {sz mo : Int} {B : List Int} {s : aa.St} {li di : Value} {w0 : World} {h : Hp} (hk : s.kind ≤ 0) (hh : cA w0 [MS b bl sz mo li di s, LW bl B s.at_ [] 0] h) : MM b bl sz mo B s w0 h :=
 ⟨⟨li, di⟩, trivial, o9 (fun h hh => o9 (fun h hh => uM (fun h _ => .inl hk) hh) hh) hh⟩
theorem mz {b bl l d : Nat} {sz mo : Int} {B : List Int} {s : aa.St} {w0 : World} {h : Hp} (hh : cA w0 [MS b bl sz mo (.pointer (some ⟨l, 0, none⟩)) (.pointer (some ⟨d, 0, none⟩)) s, LW bl B s.at_ [] 0, HC l s.lits, HC d s.cH] h) : MM b bl sz mo B s w0 h :=
 ⟨⟨_, _⟩, trivial, o9 (fun h hh => o9 (fun h hh => uM (fun h hh => .inr ⟨l, d, rfl, rfl, hh⟩) hh) hh) hh⟩
theorem fm {b bl : Nat} {sz mo : Int} {B : List Int} {s : aa.St} {li di : Value} {w0 : World} {h : Hp} (hh : cA w0 [MS b bl sz mo li di s, LW bl B s.at_ [] 0, CD li di s] h) : MM b bl sz mo B s w0 h := ⟨⟨li, di⟩, trivial, hh⟩
theorem yB {li di : Value} {s : aa.St} {w0 : World} {h : Hp} (hk : 0 < s.kind) (hh : CD li di s w0 h) : ∃ i : Nat × Nat, (li = .pointer (some ⟨i.1, 0, none⟩) ∧ di = .pointer (some ⟨i.2, 0, none⟩)) ∧ cA w0 [HC i.1 s.lits, HC i.2 s.cH] h := by
 rcases hh with hh | ⟨l, d, h1, h2, h3⟩
 ·exact absurd hk (by omega)
 ·exact ⟨(l, d), ⟨h1, h2⟩, h3⟩
theorem aD.fold {P : Program} {f : FuncId} {args : List Value} {A : ae} {Bs : List ae} {Post : Ending → List ae → Prop} (h : aD P f args [A] Post) (hA : ∀ w0 h, cA w0 Bs h → A w0 h) : aD P f args Bs Post := fun w0 F w hi => h w0 F w (hi.cls (hA w0))
end Go.Sl
namespace Go.Proofs.YtmbljkghkcgejaaGreat
open Go.Sl 
theorem cJ : dJ Tryz.prog ⟨[], [(75, 0, 0), (75, 6, 6), (75, 7, 7), (75, 8, 8)]⟩ = true := by kernel_rfl
attribute [local irreducible] ab.aO ab.tk ab.ord ab.bx ab.words ab.cF aa.fP aa.bG aa.bO aa.cY aa.hL aa.hD aa.hC aa.eZ aa.told aa.bF aa.iN aa.rep aa.eo aa.dr aa.sym aa.cC af.az aa.eG aa.cT
set_option maxHeartbeats 2000000 in
theorem wk (b bl : Nat) (sz mo : Int) (po : Option Addr) (no co : Nat) (li di : Value) (s : aa.St) (B : List Int) (a : Nat) (sy : Int) (h0 : 0 ≤ sy ∧ sy < 1000) (hl : B.length < 500000000) (hB : af.aY B) (ha : a ≤ 8 * B.length) : aD Tryz.prog 67 [.pointer (some ⟨b, 0, none⟩), .int .i64 sy] [av b 75 [.pointer (some ⟨bl, 0, none⟩), .int .i64 sz, .int .i64 mo, .slice po no co, .bool s.ended, .int .i64 0, .int .i64 s.kind, .int .i64 (s.left : Int), .bool s.last, li, di, .int .i64 (s.aq : Int), .int .i64 (s.aL : Int)], LW bl B a [] 0] (ib (aa.eo B sy a) (fun x v G => v = .int .i64 x.1 ∧ G = [av b 75 [.pointer (some ⟨bl, 0, none⟩), .int .i64 sz, .int .i64 mo, .slice po no co, .bool s.ended, .int .i64 0, .int .i64 s.kind, .int .i64 (s.left : Int), .bool s.last, li, di, .int .i64 (s.aq : Int), .int .i64 (s.aL : Int)], LW bl B x.2 [] 0]) [MX b bl sz mo]) := by
 refine ax [(0, _), (1, _)] Tryz.func67 rfl Tryz.ntmps67 rfl rfl ?_
 intro w0 F
 refine rT cJ 5 rfl ?_
 rcases (Classical.em (sy < 29)) with hq | hq
 ·refine rC cJ 3 rfl ?_
  refine oV (ck (bZ rfl rfl) hq) ?_
  refine ai (kE 4) V.kt  rfl .nil rfl ?_
  rintro _ _ ⟨rfl, rfl⟩
  refine rO cJ 11 rfl ?_
  refine aj rfl (fun h9 => ?_) (fun h9 => ?_)
  ·refine cy cJ 10 rfl (by omega) ?_
   exact kA (x := (3 + sy, a)) (aa.yE h0.1 (by omega) ha) (bu rfl) ⟨rfl, rfl⟩ (sub (aE .nil) ao)
  ·refine rC cJ 7 rfl ?_
   refine aj rfl (fun h14 => ?_) (fun h14 => ?_)
   ·refine rC cJ 8 rfl ?_
    exact kA (x := (258, a)) (aa.zI (by omega) ha) (bu rfl) ⟨rfl, rfl⟩ (sub (aE .nil) ao)
   ·refine rC cJ 6 rfl ?_
    refine oV (ke rfl rfl (by omega) (lN (by omega) (by omega) (by omega))) ?_
    refine bN cJ 4 rfl (by omega) ?_
    rcases (Nat.lt_or_ge (8 * B.length) (a + (aa.fY sy))) with hx | hx
    ·refine rC cJ 1 rfl ?_
     obtain ⟨hk1, hk2, hk3⟩ := aa.wO (s := sy) (by omega) (by omega)
     have hsh := aa.jQ (x := 4 + sy % 4) (n := aa.fY sy) (by omega) (by omega) (by omega) rfl
     have hnb := af.aU B a (aa.fY sy)
     have hnc := af.ig (show aa.fY sy ≤ 24 by omega)
     rw [hk1]
     refine wN [pz 0 [] [1], pz 1 [0] [], pz 3 [1] [], pz 0 [] [5], pz 15 [2, 3] [], pz 31 [4] [], pz 0 [] [0], pz 64 [6] [], pz 192 [7] [], pz 448 [8] [], pz 0 [] [5], pz 1984 [9, 10] [], pz 4095 [5, 11] [], pz 8191 [12] []] [⟨fun y => av b 75 [.pointer (some ⟨bl, 0, none⟩), .int .i64 sz, .int .i64 mo, .slice po no co, .bool s.ended, .int .i64 0, .int .i64 s.kind, .int .i64 (s.left : Int), .bool s.last, li, di, .int .i64 (s.aq : Int), .int .i64 (s.aL : Int)], none, none, [9, 11]⟩, ⟨fun y => LW bl B a [] 0, none, none, [11]⟩] F V.mixed ?_
     refine nM ?_
     refine nV (fun y hA L => ic rfl rfl (by omega) (jx (by omega))) ?_
     refine nV (fun y hA L => bU rfl rfl wI) ?_
     refine nM ?_
     refine nV (fun y hA L => eI (r := (4 + sy % 4) * 2 ^ aa.fY sy) rfl rfl (by omega) hsh.1) ?_
     refine nV (fun y hA L => bU rfl rfl wI) ?_
     refine nM ?_
     refine nN ?_
     refine nG V.fe ?_
     refine nR (fun y FF hA => ag V.dw rfl ak rfl) ?_
     refine nM ?_
     refine bj (undef) _ _ (fun y => rfl) rfl (fun y => rfl) (fun y FF hA => fN (gk bl B a [] 0 (aa.fY sy) hl hB (by omega) (by omega) (by omega)) V.gp rfl (.cons ar .nil) (by rintro _ _ ⟨rfl, rfl⟩; exact lu (aa.ve (by omega) (by omega) hx) PE.end_ (aG (.cons ar .nil) (by exact xn (M := FF) (F := F)) (fun w0 h hh => cD hh)))) ?_
     refine bj (.bool true) _ _ (fun y => rfl) rfl (fun y => rfl) (fun y FF hA => (dj.fact (hA 11 (by decide)) (q := fun _ => False) rfl).elim) ?_
     refine bj (.bool true) _ _ (fun y => rfl) rfl (fun y => rfl) (fun y FF hA => (dj.fact (hA 11 (by decide)) (q := fun _ => False) rfl).elim) ?_
     refine aM ?_
     intro y hA
     exact (dj.fact (hA 11 (by exact Nat.le_of_ble_eq_true rfl)) (q := fun _ => False) rfl).elim
    ·refine rC cJ 1 rfl ?_
     obtain ⟨hk1, hk2, hk3⟩ := aa.wO (s := sy) (by omega) (by omega)
     have hsh := aa.jQ (x := 4 + sy % 4) (n := aa.fY sy) (by omega) (by omega) (by omega) rfl
     have hnb := af.aU B a (aa.fY sy)
     have hnc := af.ig (show aa.fY sy ≤ 24 by omega)
     rw [hk1]
     refine wN [pz 0 [] [1], pz 1 [0] [], pz 3 [1] [], pz 0 [] [5], pz 15 [2, 3] [], pz 31 [4] [], pz 0 [] [0], pz 64 [6] [], pz 192 [7] [], pz 448 [8] [], pz 0 [] [5], pz 1984 [9, 10] [], pz 4095 [5, 11] [], pz 8191 [12] []] [⟨fun y => av b 75 [.pointer (some ⟨bl, 0, none⟩), .int .i64 sz, .int .i64 mo, .slice po no co, .bool s.ended, .int .i64 0, .int .i64 s.kind, .int .i64 (s.left : Int), .bool s.last, li, di, .int .i64 (s.aq : Int), .int .i64 (s.aL : Int)], none, none, [9]⟩, ⟨fun y => LW bl B a [] 0, none, some 11, []⟩, ⟨fun y => LW bl B (a + (aa.fY sy)) [] 0, some 11, none, []⟩] F V.mixed ?_
     refine nM ?_
     refine nV (fun y hA L => ic rfl rfl (by omega) (jx (by omega))) ?_
     refine nV (fun y hA L => bU rfl rfl wI) ?_
     refine nM ?_
     refine nV (fun y hA L => eI (r := (4 + sy % 4) * 2 ^ aa.fY sy) rfl rfl (by omega) hsh.1) ?_
     refine nV (fun y hA L => bU rfl rfl wI) ?_
     refine nM ?_
     refine nN ?_
     refine nG V.fe ?_
     refine nR (fun y FF hA => ag V.dw rfl ak rfl) ?_
     refine nM ?_
     refine nE (fun y FF hA => dx (Post := [LW bl B (a + (aa.fY sy)) [] 0]) (fC bl B a [] 0 (aa.fY sy) hl hB (by omega) (by omega)) V.gp rfl (au .nil) (fun v G h => by rcases h with ⟨rfl, rfl⟩; exact ⟨rfl, .refl _⟩)) ?_
     refine nV (fun y hA L => bU rfl rfl wI) ?_
     refine nA ?_
     refine aM ?_
     intro y hA
     clear hA
     refine bp ?_
     refine bW _ (.cons (d := 4) rfl (.nil _)) ?_
     refine bR (M := av b 75 [.pointer (some ⟨bl, 0, none⟩), .int .i64 sz, .int .i64 mo, .slice po no co, .bool s.ended, .int .i64 0, .int .i64 s.kind, .int .i64 (s.left : Int), .bool s.last, li, di, .int .i64 (s.aq : Int), .int .i64 (s.aL : Int)] :: LW bl B (a + (aa.fY sy)) [] 0 :: F) (fun _ _ h => h) ?_
     refine rC cJ 1 rfl ?_
     exact kA (x := (3 + (4 + sy % 4) * 2 ^ aa.fY sy + af.az B a (aa.fY sy), a + aa.fY sy)) (aa.Bw (by omega) (by omega) hx) (bu rfl) ⟨rfl, rfl⟩ (sub (aE .nil) ao)
 ·refine rC cJ 3 rfl ?_
  refine oV (bA (bZ rfl rfl) hq) ?_
  refine c0 (ik 4) V.kt rfl .nil ?_
  rintro _ _ ⟨rfl, rfl⟩
  refine (dz ?_)
  exact dS (aa.wQ (by omega)) (PE.no (by decide)) (aG (au .nil) cw (fun w0 h hh => cD hh))
set_option maxHeartbeats 2000000 in
theorem Bt (b bl : Nat) (sz mo : Int) (po : Option Addr) (no co : Nat) (li : Value) (dd : Nat) (s : aa.St) (B ds : List Int) (a : Nat) (hE : ab.aO ds = 0) (hd : 0 < ds.length) (hl : B.length < 500000000) (hB : af.aY B) (ha : a ≤ 8 * B.length) : aD Tryz.prog 68 [.pointer (some ⟨b, 0, none⟩)] [av b 75 [.pointer (some ⟨bl, 0, none⟩), .int .i64 sz, .int .i64 mo, .slice po no co, .bool s.ended, .int .i64 0, .int .i64 s.kind, .int .i64 (s.left : Int), .bool s.last, li, (.pointer (some ⟨dd, 0, none⟩)), .int .i64 (s.aq : Int), .int .i64 (s.aL : Int)], HC dd ds, LW bl B a [] 0] (ib (aa.dr B ds a) (fun x v G => v = .int .i64 x.1 ∧ G = [av b 75 [.pointer (some ⟨bl, 0, none⟩), .int .i64 sz, .int .i64 mo, .slice po no co, .bool s.ended, .int .i64 0, .int .i64 s.kind, .int .i64 (s.left : Int), .bool s.last, li, (.pointer (some ⟨dd, 0, none⟩)), .int .i64 (s.aq : Int), .int .i64 (s.aL : Int)], HC dd ds, LW bl B x.2 [] 0]) [MX b bl sz mo]) := by
 refine ax [(0, _)] Tryz.func68 rfl Tryz.ntmps68 rfl rfl ?_
 intro w0 F
 have hdl := aa.pg hE
 refine rT cJ 5 rfl ?_
 rcases (aa.oJ (B := B) (ls := ds) (a := a) hE hd) with ⟨e, hs⟩ | ⟨sy, a3, hs, h0, h1, h2, h3⟩
 ·refine rC cJ 1 rfl ?_
  refine wN [pz 0 [] [0], pz 1 [0] [], pz 3 [1] [], pz 7 [2] [], pz 0 [] [0], pz 16 [4] [], pz 48 [5] [], pz 112 [6] [], pz 255 [3, 7] [], pz 511 [8] []] [⟨fun y => av b 75 [.pointer (some ⟨bl, 0, none⟩), .int .i64 sz, .int .i64 mo, .slice po no co, .bool s.ended, .int .i64 0, .int .i64 s.kind, .int .i64 (s.left : Int), .bool s.last, li, (.pointer (some ⟨dd, 0, none⟩)), .int .i64 (s.aq : Int), .int .i64 (s.aL : Int)], none, none, [3, 7, 8]⟩, ⟨fun y => HC dd ds, none, none, [8]⟩, ⟨fun y => LW bl B a [] 0, none, none, [8]⟩] F V.mixed ?_
  refine nM ?_
  refine nN ?_
  refine nG V.xc ?_
  refine nR (fun y FF hA => ag V.uU rfl ak rfl) ?_
  refine nM ?_
  refine nN ?_
  refine nG V.fe ?_
  refine nR (fun y FF hA => ag V.dw rfl ak rfl) ?_
  refine bj (undef) _ _ (fun y => rfl) rfl (fun y => rfl) (fun y FF hA => fN ((o6 dd ds bl B a [] 0 hE hl hB ha).err hs) V.w3 rfl (.cons ar (.cons ar .nil)) (by rintro _ _ ⟨hp, rfl⟩; exact lu (aa.xW hs) hp (aG (au .nil) (by exact vj (M := FF) (F := F)) (fun w0 h hh => cD hh)))) ?_
  refine bj (.bool true) _ _ (fun y => rfl) rfl (fun y => rfl) (fun y FF hA => (dj.fact (hA 8 (by decide)) (q := fun _ => False) rfl).elim) ?_
  refine aM ?_
  intro y hA
  exact (dj.fact (hA 8 (by exact Nat.le_of_ble_eq_true rfl)) (q := fun _ => False) rfl).elim
 ·refine rC cJ 1 rfl ?_
  refine wN [pz 0 [] [0], pz 1 [0] [], pz 3 [1] [], pz 7 [2] [], pz 0 [] [0], pz 16 [4] [], pz 48 [5] [], pz 112 [6] [], pz 255 [3, 7] [], pz 511 [8] []] [⟨fun y => av b 75 [.pointer (some ⟨bl, 0, none⟩), .int .i64 sz, .int .i64 mo, .slice po no co, .bool s.ended, .int .i64 0, .int .i64 s.kind, .int .i64 (s.left : Int), .bool s.last, li, (.pointer (some ⟨dd, 0, none⟩)), .int .i64 (s.aq : Int), .int .i64 (s.aL : Int)], none, none, [3, 7]⟩, ⟨fun y => HC dd ds, none, some 8, []⟩, ⟨fun y => LW bl B a [] 0, none, some 8, []⟩, ⟨fun y => HC dd ds, some 8, none, []⟩, ⟨fun y => LW bl B a3 [] 0, some 8, none, []⟩] F V.mixed ?_
  refine nM ?_
  refine nN ?_
  refine nG V.xc ?_
  refine nR (fun y FF hA => ag V.uU rfl ak rfl) ?_
  refine nM ?_
  refine nN ?_
  refine nG V.fe ?_
  refine nR (fun y FF hA => ag V.dw rfl ak rfl) ?_
  refine nE (fun y FF hA => dx (Post := [HC dd ds, LW bl B a3 [] 0]) ((o6 dd ds bl B a [] 0 hE hl hB ha).ok hs) V.w3 rfl (aE .nil) (fun v G h => by rcases h with ⟨rfl, rfl⟩; exact ⟨rfl, .refl _⟩)) ?_
  refine nA ?_
  refine aM ?_
  intro y hA
  clear hA
  refine bp ?_
  refine bW _ (.cons (d := 0) rfl (.cons (d := 3) rfl (.nil _))) ?_
  refine bR (M := av b 75 [.pointer (some ⟨bl, 0, none⟩), .int .i64 sz, .int .i64 mo, .slice po no co, .bool s.ended, .int .i64 0, .int .i64 s.kind, .int .i64 (s.left : Int), .bool s.last, li, (.pointer (some ⟨dd, 0, none⟩)), .int .i64 (s.aq : Int), .int .i64 (s.aL : Int)] :: HC dd ds :: LW bl B a3 [] 0 :: F) (fun _ _ h => h) ?_
  rcases (Classical.em (sy < 30)) with hq | hq
  ·refine rC cJ 3 rfl ?_
   refine oV (ck (bZ rfl rfl) hq) ?_
   refine ai (kE 4) V.kt  rfl .nil rfl ?_
   rintro _ _ ⟨rfl, rfl⟩
   refine rO cJ 9 rfl ?_
   refine aj rfl (fun h18 => ?_) (fun h18 => ?_)
   ·refine cy cJ 9 rfl (by omega) ?_
    exact kA (x := (1 + sy, a3)) (aa.vY hs h0 (by omega) h3) (bu rfl) ⟨rfl, rfl⟩ (sub (dU .nil) ao)
   ·refine rC cJ 5 rfl ?_
    refine oV (ke rfl rfl (by omega) (lN (by omega) (by omega) (by omega))) ?_
    refine bN cJ 4 rfl (by omega) ?_
    rcases (Nat.lt_or_ge (8 * B.length) (a3 + (aa.fU sy))) with hx | hx
    ·refine rC cJ 1 rfl ?_
     obtain ⟨hk1, hk2, hk3⟩ := aa.tA (s := sy) (by omega) (by omega)
     have hsh := aa.jQ (x := 2 + sy % 2) (n := aa.fU sy) (by omega) (by omega) (by omega) rfl
     have hnb := af.aU B a3 (aa.fU sy)
     have hnc := af.ig (show aa.fU sy ≤ 24 by omega)
     rw [hk1]
     refine wN [pz 0 [] [3], pz 1 [0] [], pz 3 [1] [], pz 0 [] [4], pz 15 [2, 3] [], pz 31 [4] [], pz 0 [] [0], pz 64 [6] [], pz 192 [7] [], pz 448 [8] [], pz 0 [] [4], pz 1984 [9, 10] [], pz 4095 [5, 11] [], pz 8191 [12] []] [⟨fun y => av b 75 [.pointer (some ⟨bl, 0, none⟩), .int .i64 sz, .int .i64 mo, .slice po no co, .bool s.ended, .int .i64 0, .int .i64 s.kind, .int .i64 (s.left : Int), .bool s.last, li, (.pointer (some ⟨dd, 0, none⟩)), .int .i64 (s.aq : Int), .int .i64 (s.aL : Int)], none, none, [9, 11]⟩, ⟨fun y => HC dd ds, none, none, []⟩, ⟨fun y => LW bl B a3 [] 0, none, none, [11]⟩] F V.mixed ?_
     refine nM ?_
     refine nV (fun y hA L => ic rfl rfl (by omega) (jx (by omega))) ?_
     refine nV (fun y hA L => bU rfl rfl wI) ?_
     refine nM ?_
     refine nV (fun y hA L => eI (r := (2 + sy % 2) * 2 ^ aa.fU sy) rfl rfl (by omega) hsh.1) ?_
     refine nV (fun y hA L => bU rfl rfl wI) ?_
     refine nM ?_
     refine nN ?_
     refine nG V.fe ?_
     refine nR (fun y FF hA => ag V.dw rfl ak rfl) ?_
     refine nM ?_
     refine bj (undef) _ _ (fun y => rfl) rfl (fun y => rfl) (fun y FF hA => fN (gk bl B a3 [] 0 (aa.fU sy) hl hB (by omega) (by omega) (by omega)) V.gp rfl (.cons ar .nil) (by rintro _ _ ⟨rfl, rfl⟩; exact lu (aa.th hs (by omega) (by omega) hx) PE.end_ (aG (.cons ar .nil) (by exact xn (M := FF) (F := F)) (fun w0 h hh => cD hh)))) ?_
     refine bj (.bool true) _ _ (fun y => rfl) rfl (fun y => rfl) (fun y FF hA => (dj.fact (hA 11 (by decide)) (q := fun _ => False) rfl).elim) ?_
     refine bj (.bool true) _ _ (fun y => rfl) rfl (fun y => rfl) (fun y FF hA => (dj.fact (hA 11 (by decide)) (q := fun _ => False) rfl).elim) ?_
     refine aM ?_
     intro y hA
     exact (dj.fact (hA 11 (by exact Nat.le_of_ble_eq_true rfl)) (q := fun _ => False) rfl).elim
    ·refine rC cJ 1 rfl ?_
     obtain ⟨hk1, hk2, hk3⟩ := aa.tA (s := sy) (by omega) (by omega)
     have hsh := aa.jQ (x := 2 + sy % 2) (n := aa.fU sy) (by omega) (by omega) (by omega) rfl
     have hnb := af.aU B a3 (aa.fU sy)
     have hnc := af.ig (show aa.fU sy ≤ 24 by omega)
     rw [hk1]
     refine wN [pz 0 [] [3], pz 1 [0] [], pz 3 [1] [], pz 0 [] [4], pz 15 [2, 3] [], pz 31 [4] [], pz 0 [] [0], pz 64 [6] [], pz 192 [7] [], pz 448 [8] [], pz 0 [] [4], pz 1984 [9, 10] [], pz 4095 [5, 11] [], pz 8191 [12] []] [⟨fun y => av b 75 [.pointer (some ⟨bl, 0, none⟩), .int .i64 sz, .int .i64 mo, .slice po no co, .bool s.ended, .int .i64 0, .int .i64 s.kind, .int .i64 (s.left : Int), .bool s.last, li, (.pointer (some ⟨dd, 0, none⟩)), .int .i64 (s.aq : Int), .int .i64 (s.aL : Int)], none, none, [9]⟩, ⟨fun y => HC dd ds, none, none, []⟩, ⟨fun y => LW bl B a3 [] 0, none, some 11, []⟩, ⟨fun y => LW bl B (a3 + (aa.fU sy)) [] 0, some 11, none, []⟩] F V.mixed ?_
     refine nM ?_
     refine nV (fun y hA L => ic rfl rfl (by omega) (jx (by omega))) ?_
     refine nV (fun y hA L => bU rfl rfl wI) ?_
     refine nM ?_
     refine nV (fun y hA L => eI (r := (2 + sy % 2) * 2 ^ aa.fU sy) rfl rfl (by omega) hsh.1) ?_
     refine nV (fun y hA L => bU rfl rfl wI) ?_
     refine nM ?_
     refine nN ?_
     refine nG V.fe ?_
     refine nR (fun y FF hA => ag V.dw rfl ak rfl) ?_
     refine nM ?_
     refine nE (fun y FF hA => dx (Post := [LW bl B (a3 + (aa.fU sy)) [] 0]) (fC bl B a3 [] 0 (aa.fU sy) hl hB (by omega) (by omega)) V.gp rfl (au .nil) (fun v G h => by rcases h with ⟨rfl, rfl⟩; exact ⟨rfl, .refl _⟩)) ?_
     refine nV (fun y hA L => bU rfl rfl wI) ?_
     refine nA ?_
     refine aM ?_
     intro y hA
     clear hA
     refine bp ?_
     refine bW _ (.cons (d := 2) rfl (.nil _)) ?_
     refine bR (M := av b 75 [.pointer (some ⟨bl, 0, none⟩), .int .i64 sz, .int .i64 mo, .slice po no co, .bool s.ended, .int .i64 0, .int .i64 s.kind, .int .i64 (s.left : Int), .bool s.last, li, (.pointer (some ⟨dd, 0, none⟩)), .int .i64 (s.aq : Int), .int .i64 (s.aL : Int)] :: HC dd ds :: LW bl B (a3 + (aa.fU sy)) [] 0 :: F) (fun _ _ h => h) ?_
     refine rC cJ 1 rfl ?_
     exact kA (x := (1 + (2 + sy % 2) * 2 ^ aa.fU sy + af.az B a3 (aa.fU sy), a3 + aa.fU sy)) (aa.zK hs (by omega) (by omega) hx) (bu rfl) ⟨rfl, rfl⟩ (sub (dU .nil) ao)
  ·refine rC cJ 3 rfl ?_
   refine oV (bA (bZ rfl rfl) hq) ?_
   refine c0 (ik 4) V.kt rfl .nil ?_
   rintro _ _ ⟨rfl, rfl⟩
   refine (dz ?_)
   exact dS (aa.uB hs (by omega)) (PE.no (by decide)) (aG (au .nil) fg (fun w0 h hh => cD hh))
set_option maxHeartbeats 4000000 in
theorem zj (b bl : Nat) (sz mo : Int) (li di : Value) (s : aa.St) (B : List Int) (hl : B.length < 500000000) (hB : af.aY B) (ha : s.at_ ≤ 8 * B.length) : aD Tryz.prog 53 [.pointer (some ⟨b, 0, none⟩)] [MS b bl sz mo li di s, LW bl B s.at_ [] 0] (ib (aa.cT B s) (fun s2 v G => v = .tuple #[] ∧ G = [MM b bl sz mo B s2]) [MX b bl sz mo]) := by
 refine ax [(0, _)] Tryz.func53 rfl Tryz.ntmps53 rfl rfl ?_
 intro w0 F
 refine eK (fun h hh => hh) ?_
 rintro ⟨po, co⟩ _
 dsimp only
 have hn1 := af.aU B (aa.cC (s.at_ + 3)) 16
 have hn2 := af.aU B ((aa.cC (s.at_ + 3)) + 16) 16
 have hal : aa.cC (s.at_ + 3) = (s.at_ + 3 + 7) / 8 * 8 := aa.tJ _
 rcases (Nat.lt_or_ge (8 * B.length) (s.at_ + 1)) with hx0 | hx0
 ·refine rT cJ 6 rfl ?_
  refine oV (ag V.dw rfl ak rfl) ?_
  refine c0 (gk bl B s.at_ [] 0 1 hl hB (by omega) (by omega) (by omega)) V.gp rfl (.cons aS .nil) ?_
  rintro _ _ ⟨rfl, rfl⟩
  refine (dz ?_)
  exact dS (aa.vy (by omega)) PE.end_ (aG (.cons ar .nil) fg (fun w0 h hh => cD hh))
 ·refine rT cJ 6 rfl ?_
  refine oV (ag V.dw rfl ak rfl) ?_
  refine ai (fC bl B s.at_ [] 0 1 hl hB (by omega) (by omega)) V.gp  rfl (.cons aS .nil) rfl ?_
  rintro _ _ ⟨rfl, rfl⟩
  refine rO cJ 3 rfl ?_
  refine bM (bV V.s4 rfl rfl rfl (by exact uT) (by exact Nat.le_of_ble_eq_true rfl) rfl) ?_
  refine rO cJ 2 rfl ?_
  rcases (Nat.lt_or_ge (8 * B.length) (s.at_ + 3)) with hx1 | hx1
  ·refine rC cJ 6 rfl ?_
   refine oV (ag V.dw rfl bB rfl) ?_
   refine c0 (gk bl B (s.at_ + 1) [] 0 2 hl hB (by omega) (by omega) (by omega)) V.gp rfl (au .nil) ?_
   rintro _ _ ⟨rfl, rfl⟩
   refine (dz ?_)
   exact dS (aa.vy (by omega)) PE.end_ (aG (.cons ar .nil) fg (fun w0 h hh => cD hh))
  ·refine rC cJ 6 rfl ?_
   refine oV (ag V.dw rfl bB rfl) ?_
   refine ai (fC bl B (s.at_ + 1) [] 0 2 hl hB (by omega) (by omega)) V.gp  rfl (au .nil) rfl ?_
   rintro _ _ ⟨rfl, rfl⟩
   refine rO cJ 2 rfl ?_
   refine bM (bV V.s3 rfl rfl rfl (by exact uT) (by exact Nat.le_of_ble_eq_true rfl) rfl) ?_
   refine rO cJ 7 rfl ?_
   refine oV (ag V.s3 rfl bB rfl) ?_
   refine rO cJ 9 rfl ?_
   refine aj rfl (fun h26 => ?_) (fun h26 => ?_)
   ·refine rC cJ 5 rfl ?_
    refine oV (ag V.dw rfl bB rfl) ?_
    refine ai (Hx bl B (s.at_ + 3) [] 0 hl (by omega)) V.iW  rfl (au .nil) rfl ?_
    rintro _ _ ⟨rfl, rfl⟩
    refine rO cJ 2 rfl ?_
    rcases (aa.K9 B.length (aa.cC (s.at_ + 3))) with hx | ⟨hx2, hx⟩ | hx
    ·refine rC cJ 1 rfl ?_
     have hk0 : (af.az B (s.at_ + 1) 2) = 0 := by omega
     refine wN [pz 0 [] [0], pz 1 [0] [], pz 3 [1] [], pz 7 [2] [], pz 15 [3] [], pz 0 [] [0], pz 32 [5] [], pz 96 [6] [], pz 224 [7] [], pz 511 [8] [], pz 1023 [4] [], pz 2047 [9] []] [⟨fun y => LW bl B (aa.cC (s.at_ + 3)) [] 0, none, none, [4]⟩, ⟨fun y => av b 75 [.pointer (some ⟨bl, 0, none⟩), .int .i64 sz, .int .i64 mo, .slice po s.out.length co, .bool s.ended, .int .i64 0, .int .i64 (af.az B (s.at_ + 1) 2), .int .i64 (s.left : Int), .bool (decide (af.az B s.at_ 1 = 1)), li, di, .int .i64 (s.aq : Int), .int .i64 (s.aL : Int)], none, none, [3, 4, 8]⟩, ⟨fun y => Row U5 po s.out.length co s.out, none, none, []⟩] F V.mixed ?_
     refine nM ?_
     refine nN ?_
     refine nG V.fe ?_
     refine nR (fun y FF hA => ag V.dw rfl ak rfl) ?_
     refine bj (undef) _ _ (fun y => rfl) rfl (fun y => rfl) (fun y FF hA => fN (gk bl B (aa.cC (s.at_ + 3)) [] 0 16 hl hB (by omega) (by omega) (by omega)) V.gp rfl (au .nil) (by rintro _ _ ⟨rfl, rfl⟩; exact lu (aa.tG hx1 hk0 (by omega)) PE.end_ (aG (.cons ar .nil) (by exact xn (M := FF) (F := F)) (fun w0 h hh => cD hh)))) ?_
     refine nM ?_
     refine nN ?_
     refine nG V.fe ?_
     refine nR (fun y FF hA => ag V.dw rfl ak rfl) ?_
     refine bj (.bool true) _ _ (fun y => rfl) rfl (fun y => rfl) (fun y FF hA => (dj.fact (hA 4 (by decide)) (q := fun _ => False) rfl).elim) ?_
     refine bj (.bool true) _ _ (fun y => rfl) rfl (fun y => rfl) (fun y FF hA => (dj.fact (hA 4 (by decide)) (q := fun _ => False) rfl).elim) ?_
     refine bj (.bool true) _ _ (fun y => rfl) rfl (fun y => rfl) (fun y FF hA => (dj.fact (hA 4 (by decide)) (q := fun _ => False) rfl).elim) ?_
     refine aM ?_
     intro y hA
     exact (dj.fact (hA 4 (by exact Nat.le_of_ble_eq_true rfl)) (q := fun _ => False) rfl).elim
    ·refine rC cJ 1 rfl ?_
     have hk0 : (af.az B (s.at_ + 1) 2) = 0 := by omega
     refine wN [pz 0 [] [0], pz 1 [0] [], pz 3 [1] [], pz 7 [2] [], pz 15 [3] [], pz 0 [] [0], pz 32 [5] [], pz 96 [6] [], pz 224 [7] [], pz 511 [8] [], pz 1023 [4] [], pz 2047 [9] []] [⟨fun y => LW bl B (aa.cC (s.at_ + 3)) [] 0, none, some 4, []⟩, ⟨fun y => av b 75 [.pointer (some ⟨bl, 0, none⟩), .int .i64 sz, .int .i64 mo, .slice po s.out.length co, .bool s.ended, .int .i64 0, .int .i64 (af.az B (s.at_ + 1) 2), .int .i64 (s.left : Int), .bool (decide (af.az B s.at_ 1 = 1)), li, di, .int .i64 (s.aq : Int), .int .i64 (s.aL : Int)], none, none, [3, 8, 9]⟩, ⟨fun y => Row U5 po s.out.length co s.out, none, none, []⟩, ⟨fun y => LW bl B ((aa.cC (s.at_ + 3)) + 16) [] 0, some 4, none, [9]⟩] F V.mixed ?_
     refine nM ?_
     refine nN ?_
     refine nG V.fe ?_
     refine nR (fun y FF hA => ag V.dw rfl ak rfl) ?_
     refine nE (fun y FF hA => dx (Post := [LW bl B ((aa.cC (s.at_ + 3)) + 16) [] 0]) (fC bl B (aa.cC (s.at_ + 3)) [] 0 16 hl hB (by omega) (by omega)) V.gp rfl (au .nil) (fun v G h => by rcases h with ⟨rfl, rfl⟩; exact ⟨rfl, .refl _⟩)) ?_
     refine nM ?_
     refine nN ?_
     refine nG V.fe ?_
     refine nR (fun y FF hA => ag V.dw rfl ak rfl) ?_
     refine bj (undef) _ _ (fun y => rfl) rfl (fun y => rfl) (fun y FF hA => fN (gk bl B ((aa.cC (s.at_ + 3)) + 16) [] 0 16 hl hB (by omega) (by omega) (by omega)) V.gp rfl (.cons ar .nil) (by rintro _ _ ⟨rfl, rfl⟩; exact lu (aa.tG hx1 hk0 (by omega)) PE.end_ (aG (.cons ar .nil) (by exact xn (M := FF) (F := F)) (fun w0 h hh => cD hh)))) ?_
     refine bj (.bool true) _ _ (fun y => rfl) rfl (fun y => rfl) (fun y FF hA => (dj.fact (hA 9 (by decide)) (q := fun _ => False) rfl).elim) ?_
     refine bj (.bool true) _ _ (fun y => rfl) rfl (fun y => rfl) (fun y FF hA => (dj.fact (hA 9 (by decide)) (q := fun _ => False) rfl).elim) ?_
     refine aM ?_
     intro y hA
     exact (dj.fact (hA 9 (by exact Nat.le_of_ble_eq_true rfl)) (q := fun _ => False) rfl).elim
    ·refine rC cJ 1 rfl ?_
     have hk0 : (af.az B (s.at_ + 1) 2) = 0 := by omega
     refine wN [pz 0 [] [0], pz 1 [0] [], pz 3 [1] [], pz 7 [2] [], pz 15 [3] [], pz 0 [] [0], pz 32 [5] [], pz 96 [6] [], pz 224 [7] [], pz 511 [8] [], pz 1023 [4] [], pz 2047 [9] []] [⟨fun y => LW bl B (aa.cC (s.at_ + 3)) [] 0, none, some 4, []⟩, ⟨fun y => av b 75 [.pointer (some ⟨bl, 0, none⟩), .int .i64 sz, .int .i64 mo, .slice po s.out.length co, .bool s.ended, .int .i64 0, .int .i64 (af.az B (s.at_ + 1) 2), .int .i64 (s.left : Int), .bool (decide (af.az B s.at_ 1 = 1)), li, di, .int .i64 (s.aq : Int), .int .i64 (s.aL : Int)], none, none, [3, 8]⟩, ⟨fun y => Row U5 po s.out.length co s.out, none, none, []⟩, ⟨fun y => LW bl B ((aa.cC (s.at_ + 3)) + 16) [] 0, some 4, some 9, []⟩, ⟨fun y => LW bl B ((aa.cC (s.at_ + 3)) + 32) [] 0, some 9, none, []⟩] F V.mixed ?_
     refine nM ?_
     refine nN ?_
     refine nG V.fe ?_
     refine nR (fun y FF hA => ag V.dw rfl ak rfl) ?_
     refine nE (fun y FF hA => dx (Post := [LW bl B ((aa.cC (s.at_ + 3)) + 16) [] 0]) (fC bl B (aa.cC (s.at_ + 3)) [] 0 16 hl hB (by omega) (by omega)) V.gp rfl (au .nil) (fun v G h => by rcases h with ⟨rfl, rfl⟩; exact ⟨rfl, .refl _⟩)) ?_
     refine nM ?_
     refine nN ?_
     refine nG V.fe ?_
     refine nR (fun y FF hA => ag V.dw rfl ak rfl) ?_
     refine nE (fun y FF hA => dx (Post := [LW bl B ((aa.cC (s.at_ + 3)) + 32) [] 0]) (fC bl B ((aa.cC (s.at_ + 3)) + 16) [] 0 16 hl hB (by omega) (by omega)) V.gp rfl (au .nil) (fun v G h => by rcases h with ⟨rfl, rfl⟩; exact ⟨rfl, .refl _⟩)) ?_
     iterate 2 refine nA ?_
     refine aM ?_
     intro y hA
     clear hA
     refine bp ?_
     refine bW _ (.cons (d := 0) rfl (.cons (d := 2) rfl (.cons (d := 3) rfl (.nil _)))) ?_
     refine bR (M := av b 75 [.pointer (some ⟨bl, 0, none⟩), .int .i64 sz, .int .i64 mo, .slice po s.out.length co, .bool s.ended, .int .i64 0, .int .i64 (af.az B (s.at_ + 1) 2), .int .i64 (s.left : Int), .bool (decide (af.az B s.at_ 1 = 1)), li, di, .int .i64 (s.aq : Int), .int .i64 (s.aL : Int)] :: Row U5 po s.out.length co s.out :: LW bl B ((aa.cC (s.at_ + 3)) + 32) [] 0 :: F) (fun _ _ h => h) ?_
     rcases (Classical.em ((af.az B (aa.cC (s.at_ + 3)) 16) = 65535 - (af.az B ((aa.cC (s.at_ + 3)) + 16) 16))) with hm | hm
     ·refine rC cJ 4 rfl ?_
      refine oV (FP (r := (IntKind.i64.wrap ((BitVec.ofInt IntKind.i64.bits (af.az B (aa.cC (s.at_ + 3)) 16) ^^^ BitVec.ofInt IntKind.i64.bits (af.az B ((aa.cC (s.at_ + 3)) + 16) 16)).toNat : Int))) rfl rfl rfl) ?_
      refine oV (ck (cg rfl rfl) ((aa.Gf hn1 hn2).2 hm)) ?_
      refine ai (kE 4) V.kt  rfl .nil rfl ?_
      rintro _ _ ⟨rfl, rfl⟩
      refine rO cJ 7 rfl ?_
      refine bM (bV V.s3 rfl rfl rfl (by exact dO) (by exact Nat.le_of_ble_eq_true rfl) rfl) ?_
      refine rO cJ 2 rfl ?_
      rw [hk0, show (af.az B (aa.cC (s.at_ + 3)) 16) = ((((af.az B (aa.cC (s.at_ + 3)) 16)).toNat : Nat) : Int) from (Int.toNat_of_nonneg hn1.1).symm]
      exact hG (x := { s with at_ := aa.cC (s.at_ + 3) + 32, kind := 0, left := (af.az B (aa.cC (s.at_ + 3)) 16).toNat, last := (decide (af.az B s.at_ 1 = 1)) }) (aa.qD hx1 hk0 (by omega) hm) dN ⟨rfl, rfl⟩ ((aG (aE .nil) .refl (fun w0 h hh => cU (s := { s with at_ := aa.cC (s.at_ + 3) + 32, kind := 0, left := (af.az B (aa.cC (s.at_ + 3)) 16).toNat, last := (decide (af.az B s.at_ 1 = 1)) }) rfl hh)).trans (aG (aE .nil) ao (fun w0 h hh => nH (s := { s with at_ := aa.cC (s.at_ + 3) + 32, kind := 0, left := (af.az B (aa.cC (s.at_ + 3)) 16).toNat, last := (decide (af.az B s.at_ 1 = 1)) }) (Int.le_refl _) hh)))
     ·refine rC cJ 4 rfl ?_
      refine oV (FP (r := (IntKind.i64.wrap ((BitVec.ofInt IntKind.i64.bits (af.az B (aa.cC (s.at_ + 3)) 16) ^^^ BitVec.ofInt IntKind.i64.bits (af.az B ((aa.cC (s.at_ + 3)) + 16) 16)).toNat : Int))) rfl rfl rfl) ?_
      refine oV (bA (cg rfl rfl) (fun h => hm ((aa.Gf hn1 hn2).1 h))) ?_
      refine c0 (ik 4) V.kt rfl .nil ?_
      rintro _ _ ⟨rfl, rfl⟩
      refine (dz (fo ?_))
      exact dS (aa.wR hx1 hk0 (by omega) hm) (PE.no (by decide)) (aG (au .nil) fg (fun w0 h hh => cD hh))
   ·refine rC cJ 6 rfl ?_
    refine aj rfl (fun h52 => ?_) (fun h52 => ?_)
    ·refine rC cJ 2 rfl ?_
     refine ai (Hz b bl sz mo po s.out.length co li di { s with kind := (af.az B (s.at_ + 1) 2), last := (decide (af.az B s.at_ 1 = 1)) }) V.NN  rfl (.cons ar .nil) rfl ?_
     rintro _ _ ⟨lb, db, rfl, rfl⟩
     refine rO cJ 2 rfl ?_
     have hk1 : (af.az B (s.at_ + 1) 2) = 1 := by omega
     rw [hk1]
     exact hG (x := { s with at_ := s.at_ + 3, kind := 1, last := (decide (af.az B s.at_ 1 = 1)), lits := aa.bF, cH := aa.fu }) (aa.ti hx1 hk1) dN ⟨rfl, rfl⟩ ((aG (au (.cons dC .nil)) .refl (fun w0 h hh => cU (s := { s with at_ := s.at_ + 3, kind := 1, last := (decide (af.az B s.at_ 1 = 1)), lits := aa.bF, cH := aa.fu }) rfl hh)).trans (aG (au (.cons aS (.cons dg (.cons dg .nil)))) ao (fun w0 h hh => mz (s := { s with at_ := s.at_ + 3, kind := 1, last := (decide (af.az B s.at_ 1 = 1)), lits := aa.bF, cH := aa.fu }) hh)))
    ·refine rC cJ 6 rfl ?_
     refine aj rfl (fun h56 => ?_) (fun h56 => ?_)
     ·rcases (aa.eT (aa.told B (s.at_ + 3))) with ⟨e, ht⟩ | ⟨⟨x3, ll, dl⟩, ht⟩
      ·refine rC cJ 2 rfl ?_
       refine c0 ((CC b bl sz mo po s.out.length co li di { s with kind := (af.az B (s.at_ + 1) 2), last := (decide (af.az B s.at_ 1 = 1)) } B (s.at_ + 3) hl hB (by omega)).err ht) V.L6 rfl (.cons ar (au .nil)) ?_
       rintro _ _ ⟨hp, rfl⟩
       refine (fo ?_)
       exact dS (aa.ya hx1 (by omega) ht) hp (sub (au .nil) cw)
      ·refine rC cJ 2 rfl ?_
       refine ai ((CC b bl sz mo po s.out.length co li di { s with kind := (af.az B (s.at_ + 1) 2), last := (decide (af.az B s.at_ 1 = 1)) } B (s.at_ + 3) hl hB (by omega)).ok ht) V.L6  rfl (.cons ar (au .nil)) rfl ?_
       rintro _ _ ⟨lb, db, rfl, rfl⟩
       refine rO cJ 2 rfl ?_
       have hk2 : (af.az B (s.at_ + 1) 2) = 2 := by omega
       rw [hk2]
       exact hG (x := { s with at_ := x3, kind := 2, last := (decide (af.az B s.at_ 1 = 1)), lits := ll, cH := dl }) (aa.pZ hx1 hk2 ht) dN ⟨rfl, rfl⟩ ((aG (au (.cons dC .nil)) .refl (fun w0 h hh => cU (s := { s with at_ := x3, kind := 2, last := (decide (af.az B s.at_ 1 = 1)), lits := ll, cH := dl }) rfl hh)).trans (aG (gA .nil) ao (fun w0 h hh => mz (s := { s with at_ := x3, kind := 2, last := (decide (af.az B s.at_ 1 = 1)), lits := ll, cH := dl }) hh)))
     ·refine aW ?_
      refine c0 (ik 4) V.kt rfl .nil ?_
      rintro _ _ ⟨rfl, rfl⟩
      refine (fo ?_)
      exact dS (aa.wL hx1 (by omega) (by omega) (by omega)) (PE.no (by decide)) (aG (.cons ar .nil) fg (fun w0 h hh => cD hh))
end Go.Proofs.YtmbljkghkcgejaaGreat

/- Walks of functions that the law reaches, and what they lean on; no conditions. -/
import Derived.Test.YtmbljkghkcgejaaGreatM30
import Derived.Test.YtmbljkghkcgejaaGreatSl22
import Derived.KernelRfl
import Derived.Test.YtmbljkghkcgejaaGreatM39
import Derived.Test.YtmbljkghkcgejaaGreatM35
import Derived.Test.YtmbljkghkcgejaaGreatM32
set_option linter.unusedVariables false
set_option linter.unusedSimpArgs false
set_option maxRecDepth 100000
namespace Go.Proofs.YtmbljkghkcgejaaGreat
open Go.Sl 
theorem rS : dJ Tryz.prog ⟨[], [(75, 3, 3)]⟩ = true := by kernel_rfl
theorem kE (e : Int) : aD Tryz.prog 62 [.bool true, .int .i64 e] [] (aK fun v G => v = .tuple #[] ∧ G = []) := by
 refine ax [(0, _), (1, _)] Tryz.func62 rfl Tryz.ntmps62 rfl rfl ?_
 intro w0 F
 refine rT rS 8 rfl ?_
 exact dT dN ⟨rfl, rfl⟩ (sub .nil ao)
theorem ik (e : Int) : aD Tryz.prog 62 [.bool false, .int .i64 e] [] (sa fun ch G => ch = jY 24 (.int .i64 e) ∧ G = []) := by
 refine ax [(0, _), (1, _)] Tryz.func62 rfl Tryz.ntmps62 rfl rfl ?_
 intro w0 F
 refine rT rS 9 rfl ?_
 refine oV (ux V.pV rfl) ?_
 refine uv rfl ?_
 skip
 exact xp (G := []) ⟨rfl, rfl⟩ (sub .nil ao)
theorem I1 (b bl : Nat) (sz mo : Int) (li di : Value) (s : aa.St) (yb : Int) (hy : 0 ≤ yb ∧ yb < 256) (hm : mo < 1000000000) : aD Tryz.prog 52 [.pointer (some ⟨b, 0, none⟩), .int .u8 yb] [MS b bl sz mo li di s] (ib (aa.eE mo s yb) (fun s2 v G => v = .tuple #[] ∧ G = [MS b bl sz mo li di s2]) [MX b bl sz mo]) := by
 refine ax [(0, _), (1, _)] Tryz.func52 rfl Tryz.ntmps52 rfl rfl ?_
 intro w0 F
 refine eK (fun h hh => hh) ?_
 rintro ⟨po, co⟩ _
 dsimp only
 rcases (Classical.em ((s.out.length : Int) < mo)) with hx | hx
 ·refine rT rS 1 rfl ?_
  refine wN [pz 0 [] [0], pz 1 [0] [], pz 3 [1] [], pz 7 [2] [], pz 15 [3] [], pz 0 [] [0], pz 32 [5] [], pz 96 [6] [], pz 224 [7] [], pz 511 [4, 8] [], pz 1023 [9] []] [⟨fun y => av b 75 [.pointer (some ⟨bl, 0, none⟩), .int .i64 sz, .int .i64 mo, .slice po s.out.length co, .bool s.ended, .int .i64 0, .int .i64 s.kind, .int .i64 (s.left : Int), .bool s.last, li, di, .int .i64 (s.aq : Int), .int .i64 (s.aL : Int)], none, none, [3, 8]⟩, ⟨fun y => Row U5 po s.out.length co s.out, none, none, []⟩] F V.mixed ?_
  refine nM ?_
  refine nN ?_
  refine nG V.mc ?_
  refine nR (fun y FF hA => ag V.eL rfl ak rfl) ?_
  refine nV (fun y hA L => eF (ty' := 0) Tryz.underlying22 rfl) ?_
  refine nM ?_
  refine nN ?_
  refine nG V.GB ?_
  refine nR (fun y FF hA => ag V.s3 rfl ak rfl) ?_
  refine nV (fun y hA L => ck (bZ rfl rfl) hx) ?_
  refine nE (fun y FF hA => dx (Post := []) (kE 6) V.kt rfl .nil (fun v G h => by rcases h with ⟨rfl, rfl⟩; exact ⟨rfl, .refl _⟩)) ?_
  refine aM ?_
  intro y hA
  clear hA
  refine bp ?_
  refine bW _ (.cons (d := 0) rfl (.cons (d := 1) rfl (.nil _))) ?_
  refine bR (M := av b 75 [.pointer (some ⟨bl, 0, none⟩), .int .i64 sz, .int .i64 mo, .slice po s.out.length co, .bool s.ended, .int .i64 0, .int .i64 s.kind, .int .i64 (s.left : Int), .bool s.last, li, di, .int .i64 (s.aq : Int), .int .i64 (s.aL : Int)] :: Row U5 po s.out.length co s.out :: F) (fun _ _ h => h) ?_
  refine rC rS 5 rfl ?_
  refine oV (ag V.eL rfl ak rfl) ?_
  refine oV (aB rfl) ?_
  refine bP (U5) [yb] V.bH V.z5 rfl rfl rfl rfl rfl rfl ?_
  intro r3
  refine bQ (c := (U5)) V.bH V.z5 rfl rfl rfl rfl aS (own ak) (by omega) rfl ?_
  intro p22 c22
  refine rO rS 2 rfl ?_
  refine bM (bV V.eL rfl rfl rfl (by exact nc) (by exact Nat.le_of_ble_eq_true rfl) rfl) ?_
  refine bC ?_
  exact hG (x := { s with out := s.out ++ [yb] }) (by unfold aa.eE; rw [if_pos hx]) dN ⟨rfl, rfl⟩ ((aG (.cons aS (au .nil)) cw (fun w0 h hh => cU (s := { s with out := s.out ++ [yb] }) (by simp) hh)))
 ·refine rT rS 1 rfl ?_
  refine wN [pz 0 [] [0], pz 1 [0] [], pz 3 [1] [], pz 7 [2] [], pz 15 [3] [], pz 0 [] [0], pz 32 [5] [], pz 96 [6] [], pz 224 [7] [], pz 511 [4, 8] [], pz 1023 [9] []] [⟨fun y => av b 75 [.pointer (some ⟨bl, 0, none⟩), .int .i64 sz, .int .i64 mo, .slice po s.out.length co, .bool s.ended, .int .i64 0, .int .i64 s.kind, .int .i64 (s.left : Int), .bool s.last, li, di, .int .i64 (s.aq : Int), .int .i64 (s.aL : Int)], none, none, [3, 8, 10]⟩, ⟨fun y => Row U5 po s.out.length co s.out, none, none, []⟩] F V.mixed ?_
  refine nM ?_
  refine nN ?_
  refine nG V.mc ?_
  refine nR (fun y FF hA => ag V.eL rfl ak rfl) ?_
  refine nV (fun y hA L => eF (ty' := 0) Tryz.underlying22 rfl) ?_
  refine nM ?_
  refine nN ?_
  refine nG V.GB ?_
  refine nR (fun y FF hA => ag V.s3 rfl ak rfl) ?_
  refine nV (fun y hA L => bA (bZ rfl rfl) hx) ?_
  refine bj (undef) _ _ (fun y => rfl) rfl (fun y => rfl) (fun y FF hA => fN (ik 6) V.kt rfl .nil (by rintro _ _ ⟨rfl, rfl⟩; exact lu (by unfold aa.eE; rw [if_neg hx]) (PE.no (by decide)) (aG (au .nil) (by exact vj (M := FF) (F := F)) (fun w0 h hh => cD hh)))) ?_
  refine aM ?_
  intro y hA
  exact (dj.fact (hA 10 (by exact Nat.le_of_ble_eq_true rfl)) (q := fun _ => False) rfl).elim
end Go.Proofs.YtmbljkghkcgejaaGreat
namespace Go.Proofs.YtmbljkghkcgejaaGreat
open Go.Sl 
theorem iO : dJ Tryz.prog ⟨[], [(87, 2, 2), (89, 0, 0)]⟩ = true := by kernel_rfl
attribute [local irreducible] ab.aO ab.tk ab.ord ab.bx ab.words ab.cF aa.dW aa.fP
theorem Dr (p : Option Addr) (n cap : Nat) (ls : List Int) (R : ae) (hn : n = ls.length) (hR : ∀ w0 h, R w0 h → bJ I3 p ls.length ls w0 h) : aD Tryz.prog 83 [.slice p n cap] [R] (ib (aa.iN ls) (fun _ v G => ∃ b, v = .pointer (some ⟨b, 0, none⟩) ∧ G = [HC b ls, R]) []) := by
 subst hn
 refine ax [(0, _)] Tryz.func83 rfl Tryz.ntmps83 rfl rfl ?_
 intro w0 F
 refine rT iO 5 rfl ?_
 rcases (Classical.em (ab.aO ls = 0)) with hE | hE
 ·refine rC iO 3 rfl ?_
  refine ai (nS p cap ls R hR hE) V.CW  rfl (au .nil) rfl ?_
  rintro _ _ ⟨bh, rfl, rfl⟩
  refine rO iO 10 rfl ?_
  refine oV (ck (cg rfl rfl) rfl) ?_
  refine ai (kE 4) V.kt  rfl .nil rfl ?_
  rintro _ _ ⟨rfl, rfl⟩
  refine rO iO 9 rfl ?_
  exact kA (x := ()) (by unfold aa.iN; rw [if_pos hE]) (bu rfl) ⟨bh, rfl, rfl⟩ (sub (aE .nil) ao)
 ·refine rC iO 3 rfl ?_
  refine ai (Ei p cap ls R hR hE) V.CW  rfl (au .nil) rfl ?_
  rintro _ _ ⟨rfl, rfl⟩
  refine rO iO 10 rfl ?_
  refine oV (bA (cg rfl rfl) hE) ?_
  refine c0 (ik 4) V.kt rfl .nil ?_
  rintro _ _ ⟨rfl, rfl⟩
  refine (dz ?_)
  exact dS (e := 4) (by unfold aa.iN; rw [if_neg hE]) (PE.no (by decide)) (sub .nil cw)
theorem Ah (x : Int) (n : Nat) (hn : n < 1000000) : aD Tryz.prog 82 [.int .i64 x, .int .i64 (n : Int)] [] (aK fun v G => ∃ p c, v = .slice p n c ∧ G = [Row I3 p n c (List.replicate n x)]) := by
 refine ax [(0, _), (1, _)] Tryz.func82 rfl Tryz.ntmps82 rfl rfl ?_
 intro w0 F
 refine rT iO 18 rfl ?_
 refine eW (Row I3 none 0 0 (List.replicate 0 x)) (Row.nil _ _ _) ?_
 refine eJ (fun (k : Nat) (po : Option Addr) (co : Nat) => [(0, .int .i64 x), (5, .slice po k co), (6, .int .i64 (n : Int)), (7, .int .i64 (k : Int))]) (fun (k : Nat) (po : Option Addr) (co : Nat) => Row I3 po k co (List.replicate k x) :: F) (fun (k : Nat) (po : Option Addr) (co : Nat) => k ≤ n) (fun (k : Nat) (po : Option Addr) (co : Nat) => n - k) (i3 (0) (none) (0) ?_ (dI ln) (sub (au .nil) ao)) ?_
 ·exact Nat.zero_le _
 intro k po co
 rintro hk
 refine rL iO 6 rfl ?_
 refine aj rfl (fun h8 => ?_) (fun h8 => ?_)
 ·refine rC iO 7 rfl ?_
  refine bP (I3) [x] V.aF V.z3 rfl rfl rfl rfl rfl rfl ?_
  intro iV
  refine bQ (c := (I3)) V.aF V.z3 rfl rfl rfl rfl ar (own ak) (by omega) rfl ?_
  intro p12 c12
  refine bN iO 8 rfl (by omega) ?_
  rw [← List.replicate_succ']
  refine j3 (k + 1) (_) (_) ?_ (dI ln) (sub (au .nil) cw)
  exact ⟨by omega, by omega⟩
 ·refine rC iO 12 rfl ?_
  obtain rfl : k = n := by omega
  exact an (bu rfl) ⟨po, co, rfl, rfl⟩ (sub (au .nil) ao)
theorem Iw  : aD Tryz.prog 84 [] [] (aK fun v G => ∃ p, v = .slice p 19 19 ∧ G = [Row I3 p 19 19 aa.dv]) := by
 refine ax [] Tryz.func84 rfl Tryz.ntmps84 rfl rfl ?_
 intro w0 F
 refine rT iO 7 rfl ?_
 refine bP (I3) [16, 17, 18, 0, 8, 7, 9, 6, 10, 5, 11, 4, 12, 3, 13, 2, 14, 1, 15] V.aF V.z3 rfl rfl rfl rfl rfl rfl ?_
 intro b1
 refine rO iO 4 rfl ?_
 exact an (bu rfl) ⟨_, rfl, rfl⟩ (sub (au .nil) ao)
theorem Hx (b : Nat) (B : List Int) (at_ : Nat) (out : List Int) (free : Int) (hl : B.length < 500000000) (ha : at_ ≤ 8 * B.length) : aD Tryz.prog 63 [.pointer (some ⟨b, 0, none⟩)] [LW b B at_ out free] (aK fun v G => v = .tuple #[] ∧ G = [LW b B (aa.cC at_) out free]) := by
 refine ax [(0, _)] Tryz.func63 rfl Tryz.ntmps63 rfl rfl ?_
 intro w0 F
 refine eK (fun h hh => hh) ?_
 rintro ⟨p1, c1, p2, c2⟩ _
 dsimp only
 refine rT iO 6 rfl ?_
 refine oV (ag V.s3 rfl ak rfl) ?_
 refine bN iO 2 rfl (by omega) ?_
 refine oV (ke rfl rfl (by omega) (lN (by omega) (by omega) (by omega))) ?_
 refine bN iO 4 rfl (by omega) ?_
 refine bM (bV V.s3 rfl rfl rfl (by exact dO) (by exact Nat.le_of_ble_eq_true rfl) rfl) ?_
 refine bC ?_
 rw [show ((at_ : Int) + 8 - 1) / 8 * 8 = ((aa.cC at_ : Nat) : Int) from by unfold aa.cC; omega]
 exact dT dN ⟨rfl, rfl⟩ (aG (dU .nil) ao (fun w0 h hh => jP hh))
theorem o6 (b : Nat) (ls : List Int) (b2 : Nat) (B : List Int) (at_ : Nat) (out : List Int) (free : Int) (hE : ab.aO ls = 0) (hl : B.length < 500000000) (hB : af.aY B) (ha : at_ ≤ 8 * B.length) : aD Tryz.prog 66 [.pointer (some ⟨b, 0, none⟩), .pointer (some ⟨b2, 0, none⟩)] [HC b ls, LW b2 B at_ out free] (ib (aa.sym ls B at_) (fun x v G => v = .int .i64 x.1 ∧ G = [HC b ls, LW b2 B x.2 out free]) []) := by
 intro w0 F w hi
 refine (KD b ls b2 B at_ out free hE hl hB ha w0 F w hi).mono ?_
 rintro e w' ⟨G, h1, (⟨v, rfl, n', s', h, rfl, rfl⟩ | ⟨ch, rfl, (⟨n', h, rfl, rfl⟩ | ⟨n', h, rfl, rfl⟩)⟩)⟩
 ·exact ⟨_, h1, .inl ⟨_, rfl, (s', at_ + n'), by unfold aa.sym; rw [h], rfl, rfl⟩⟩
 ·exact ⟨[], h1.right, .inr ⟨_, rfl, 2, by unfold aa.sym; rw [h], PE.end_, rfl⟩⟩
 ·exact ⟨[], h1.right, .inr ⟨_, rfl, 4, by unfold aa.sym; rw [h], PE.none_, rfl⟩⟩
end Go.Proofs.YtmbljkghkcgejaaGreat
namespace Go.Proofs.YtmbljkghkcgejaaGreat
open Go.Sl 
theorem fa : dJ Tryz.prog ⟨[77], [(75, 0, 0), (75, 4, 4), (75, 6, 6), (75, 8, 8)]⟩ = true := by kernel_rfl
attribute [local irreducible] ab.aO ab.tk ab.ord ab.bx ab.words ab.cF aa.dW aa.fP
theorem zD (b bl : Nat) (sz mo : Int) (po : Option Addr) (no co : Nat) (li di : Value) (s : aa.St) : aD Tryz.prog 55 [.pointer (some ⟨b, 0, none⟩)] [av b 75 [.pointer (some ⟨bl, 0, none⟩), .int .i64 sz, .int .i64 mo, .slice po no co, .bool s.ended, .int .i64 0, .int .i64 s.kind, .int .i64 (s.left : Int), .bool s.last, li, di, .int .i64 (s.aq : Int), .int .i64 (s.aL : Int)]] (aK fun v G => v = .tuple #[] ∧ G = [av b 75 [.pointer (some ⟨bl, 0, none⟩), .int .i64 sz, .int .i64 mo, .slice po no co, .bool s.last, .int .i64 0, .int .i64 (-1), .int .i64 (s.left : Int), .bool s.last, li, di, .int .i64 (s.aq : Int), .int .i64 (s.aL : Int)]]) := by
 refine ax [(0, _)] Tryz.func55 rfl Tryz.ntmps55 rfl rfl ?_
 intro w0 F
 refine rT fa 6 rfl ?_
 refine oV (ag V.s4 rfl ak rfl) ?_
 refine rO fa 2 rfl ?_
 refine bM (bV V.s3 rfl rfl rfl (by exact dO) (by exact Nat.le_of_ble_eq_true rfl) rfl) ?_
 refine rO fa 2 rfl ?_
 refine bM (bV V.s4 rfl rfl rfl (by exact dO) (by exact Nat.le_of_ble_eq_true rfl) rfl) ?_
 refine bC ?_
 exact dT dN ⟨rfl, rfl⟩ (sub (au .nil) ao)
set_option maxHeartbeats 1000000 in
theorem GI (b bl : Nat) (sz mo : Int) (po : Option Addr) (no co : Nat) (li di : Value) (s : aa.St) (B : List Int) (a : Nat) (sy : Int) (pl : Option Addr) (cl : Nat) (l : List Int) (hs : 0 ≤ sy ∧ sy ≤ 18) (hl : B.length < 500000000) (hB : af.aY B) (ha : a ≤ 8 * B.length) (hll : l.length < 1000000) : aD Tryz.prog 85 [.pointer (some ⟨b, 0, none⟩), .int .i64 sy, .slice pl l.length cl] [av b 75 [.pointer (some ⟨bl, 0, none⟩), .int .i64 sz, .int .i64 mo, .slice po no co, .bool s.ended, .int .i64 0, .int .i64 s.kind, .int .i64 (s.left : Int), .bool s.last, li, di, .int .i64 (s.aq : Int), .int .i64 (s.aL : Int)], LW bl B a [] 0, Row I3 pl l.length cl l] (ib (aa.rep B sy l a) (fun x v G => v = .tuple #[.int .i64 x.1, .int .i64 x.2.1] ∧ G = [av b 75 [.pointer (some ⟨bl, 0, none⟩), .int .i64 sz, .int .i64 mo, .slice po no co, .bool s.ended, .int .i64 0, .int .i64 s.kind, .int .i64 (s.left : Int), .bool s.last, li, di, .int .i64 (s.aq : Int), .int .i64 (s.aL : Int)], LW bl B x.2.2 [] 0, Row I3 pl l.length cl l]) [MX b bl sz mo]) := by
 refine ax [(0, _), (1, _), (2, _)] Tryz.func85 rfl Tryz.ntmps85 rfl rfl ?_
 intro w0 F
 refine rT fa 19 rfl ?_
 refine aj rfl (fun h10 => ?_) (fun h10 => ?_)
 ·rcases (Nat.lt_or_ge (8 * B.length) (a + 2)) with hx | hx
  ·refine rC fa 1 rfl ?_
   have hy : sy = 16 := h10
   subst hy
   have hnb := af.aU B a 2
   refine rC fa 4 rfl ?_
   refine oV (ag V.dw rfl ak rfl) ?_
   refine c0 (gk bl B a [] 0 2 hl hB (by omega) (by omega) (by omega)) V.gp rfl (.cons ar .nil) ?_
   rintro _ _ ⟨rfl, rfl⟩
   refine (dz (fo (dz ?_)))
   exact dS (e := 2) (aa.jS (by decide) (show 8 * B.length < a + 2 from hx)) PE.end_ (aG (.cons ar .nil) fg (fun w0 h hh => cD hh))
  ·refine rC fa 1 rfl ?_
   have hy : sy = 16 := h10
   subst hy
   have hnb := af.aU B a 2
   refine rC fa 4 rfl ?_
   refine oV (ag V.dw rfl ak rfl) ?_
   refine ai (fC bl B a [] 0 2 hl hB (by omega) (by omega)) V.gp  rfl (.cons ar .nil) rfl ?_
   rintro _ _ ⟨rfl, rfl⟩
   refine bN fa 4 rfl (by omega) ?_
   rcases (Nat.eq_zero_or_pos l.length) with hl0 | hl0
   ·refine rC fa 4 rfl ?_
    refine oV (bA (cB rfl rfl) (by omega)) ?_
    refine c0 (ik 4) V.kt rfl .nil ?_
    rintro _ _ ⟨rfl, rfl⟩
    refine (dz (fo (dz ?_)))
    exact dS (e := 4) (aa.xB rfl (List.length_eq_zero_iff.1 hl0) (show ¬ 8 * B.length < a + 2 from by omega)) (PE.no (by decide)) (aG (.cons ar .nil) fg (fun w0 h hh => cD hh))
   ·refine rC fa 4 rfl ?_
    refine oV (ck (cB rfl rfl) (by omega)) ?_
    refine ai (kE 4) V.kt  rfl .nil rfl ?_
    rintro _ _ ⟨rfl, rfl⟩
    refine rO fa 3 rfl ?_
    have hgl : I3.g l ((l.length : Int) - 1) = l.getD (l.length - 1) 0 := gE _ (by omega)
    refine cy fa 5 rfl (by omega) ?_
    refine oV (xI V.aF (own dE)) ?_
    refine oV (xL V.s3 (own dE)) ?_
    refine rO fa 8 rfl ?_
    rw [hgl]
    exact kA (x := (l.getD (l.length - 1) 0, 3 + af.az B a 2, a + 2)) (aa.sS (by decide) (show ¬ 8 * B.length < a + 2 from by omega) (fun h => by rw [h.2] at hl0; simp at hl0)) (bT rfl rfl) ⟨rfl, rfl⟩ (sub (.cons ar (aE .nil)) ao)
 ·refine rC fa 6 rfl ?_
  refine aj rfl (fun h29 => ?_) (fun h29 => ?_)
  ·rcases (Nat.lt_or_ge (8 * B.length) (a + 3)) with hx | hx
   ·refine rC fa 1 rfl ?_
    have hy : sy = 17 := h29
    subst hy
    have hnb := af.aU B a 3
    refine rC fa 4 rfl ?_
    refine oV (ag V.dw rfl ak rfl) ?_
    refine c0 (gk bl B a [] 0 3 hl hB (by omega) (by omega) (by omega)) V.gp rfl (.cons ar .nil) ?_
    rintro _ _ ⟨rfl, rfl⟩
    refine (dz (fo (dz ?_)))
    exact dS (e := 2) (aa.jS (by decide) (show 8 * B.length < a + 3 from hx)) PE.end_ (aG (.cons ar .nil) fg (fun w0 h hh => cD hh))
   ·refine rC fa 1 rfl ?_
    have hy : sy = 17 := h29
    subst hy
    have hnb := af.aU B a 3
    refine rC fa 4 rfl ?_
    refine oV (ag V.dw rfl ak rfl) ?_
    refine ai (fC bl B a [] 0 3 hl hB (by omega) (by omega)) V.gp  rfl (.cons ar .nil) rfl ?_
    rintro _ _ ⟨rfl, rfl⟩
    refine bN fa 8 rfl (by omega) ?_
    exact kA (x := (0, 3 + af.az B a 3, a + 3)) (aa.sS (by decide) (show ¬ 8 * B.length < a + 3 from by omega) (fun h => absurd h.1 (by decide))) (bT rfl rfl) ⟨rfl, rfl⟩ (sub (.cons ar (aE .nil)) ao)
  ·refine rC fa 6 rfl ?_
   refine aj rfl (fun h37 => ?_) (fun h37 => ?_)
   ·rcases (Nat.lt_or_ge (8 * B.length) (a + 7)) with hx | hx
    ·refine rC fa 1 rfl ?_
     have hy : sy = 18 := h37
     subst hy
     have hnb := af.aU B a 7
     refine rC fa 4 rfl ?_
     refine oV (ag V.dw rfl ak rfl) ?_
     refine c0 (gk bl B a [] 0 7 hl hB (by omega) (by omega) (by omega)) V.gp rfl (.cons ar .nil) ?_
     rintro _ _ ⟨rfl, rfl⟩
     refine (dz (fo (dz ?_)))
     exact dS (e := 2) (aa.jS (by decide) (show 8 * B.length < a + 7 from hx)) PE.end_ (aG (.cons ar .nil) fg (fun w0 h hh => cD hh))
    ·refine rC fa 1 rfl ?_
     have hy : sy = 18 := h37
     subst hy
     have hnb := af.aU B a 7
     refine rC fa 4 rfl ?_
     refine oV (ag V.dw rfl ak rfl) ?_
     refine ai (fC bl B a [] 0 7 hl hB (by omega) (by omega)) V.gp  rfl (.cons ar .nil) rfl ?_
     rintro _ _ ⟨rfl, rfl⟩
     refine bN fa 8 rfl (by omega) ?_
     exact kA (x := (0, 11 + af.az B a 7, a + 7)) (aa.sS (by decide) (show ¬ 8 * B.length < a + 7 from by omega) (fun h => absurd h.1 (by decide))) (bT rfl rfl) ⟨rfl, rfl⟩ (sub (.cons ar (aE .nil)) ao)
   ·refine rC fa 11 rfl ?_
    exact kA (x := (sy, 1, a)) (aa.vZ (by omega)) (bT rfl rfl) ⟨rfl, rfl⟩ (sub (dU .nil) ao)
end Go.Proofs.YtmbljkghkcgejaaGreat
namespace Go.Sl
section
variable {C : Ctx} {E : Env} {L F : List ae} {ops : Array Oper} {d : Option Nat} {ty : TypeId} {pos : String} {aft : Array Edge}
theorem sI {A : Nat → ae} {f : FuncId} {args : List Operand} {tys : Array TypeId} {vs : List Value} {Pre Post : List ae} (hS : aD C.P f vs Pre (aK fun v G => ∃ b, v = .pointer (some ⟨b, 0, none⟩) ∧ G = A b :: Post)) (hb : aC C.P f = true) (hE : iB E args = some vs) (hL : fy L Pre F) :
  Step C ops ⟨d, .call ⟨.value (.func f), args.toArray, tys⟩, ty, pos, aft, none⟩ E L (fun v L' => v = .pointer (some ⟨iH v, 0, none⟩) ∧ True ∧ L'.Perm ((A (iH v) :: Post) ++ F)) :=
 tP hS hb hE hL fun v G ⟨b, e1, e2⟩ => by subst e1; subst e2; exact ⟨rfl, trivial, .refl _⟩
theorem xi {t n e sz : Nat} {parts : List (Nat × Operand)} {pv : List (Nat × Value)} {zs cs : List Value} (har : nk C.P t = some (n, e, sz)) (hz : dc C.P t = some zs) (hp : qm E parts = some pv) (hf : Instr.fill (fun i => some (i * sz, sz)) zs.toArray pv = some cs.toArray) :
  bX C (.build t parts.toArray) ty E L (.agg cs.toArray) L :=
 dR fun d pos aft g a w ha => by
  obtain ⟨i', z, hz1, hz2, hz3, hz4⟩ := iX hz
  have hmap : parts.toArray.map (fun x => match x with | (i, x) => (i, a.eval x)) = pv.toArray := by
   rw [← nJ hp a ha]; simp
  unfold nk at har
  split at har
  ·rename_i n' e' hfs
   split at har
   ·rename_i i hi
    cases har
    simp only [execOp, hmap, Instr.build, Sem.run_bind, zeroValue, typeInfo, run_program, Result.andThen_ok, hz1, hz2, Sem.run_pure, run_underlying hfs, run_sizeOf hi, hz3]
    simp [hf]
   ·cases har
  ·cases har
end
theorem nu {p : Option Addr} {n c m : Nat} {l : List Int} {w0 : World} {h : Hp} (hn : n = l.length) (hm : m ≤ n) (hh : Row I3 p n c l w0 h) : bJ I3 p (l.take m).length (l.take m) w0 h := by
 have := hh.rd.sub 0 m m (Nat.zero_le _) hm (Nat.le_refl _)
 rw [nL, Nat.sub_zero, List.drop_zero] at this
 rw [List.length_take, ← hn, Nat.min_eq_left hm]
 exact this
theorem lR {p : Option Addr} {n c m : Nat} {l : List Int} {w0 : World} {h : Hp} (hn : n = l.length) (hm : m ≤ n) (hc : n ≤ c) (hh : Row I3 p n c l w0 h) : bJ I3 (gK p m c 1) (l.drop m).length (l.drop m) w0 h := by
 have := hh.rd.sub m n c hm (Nat.le_refl _) hc
 rw [List.take_of_length_le (by rw [List.length_drop]; omega)] at this
 rw [List.length_drop, ← hn]
 exact this
theorem kz {p : Option Addr} {n c : Nat} {l : List Int} {w0 : World} {h : Hp} (hn : n = l.length) (hh : Row I3 p n c l w0 h) : bJ I3 p l.length l w0 h := by subst hn; exact hh.rd
end Go.Sl
namespace Go.Proofs.YtmbljkghkcgejaaGreat
open Go.Sl 
theorem lC : dJ Tryz.prog ⟨[111], [(75, 9, 9), (75, 10, 10)]⟩ = true := by kernel_rfl
attribute [local irreducible] ab.aO ab.tk ab.ord ab.bx ab.words ab.cF aa.fP aa.bG aa.bO aa.cY aa.hL aa.hD aa.hC aa.eZ aa.told aa.bF aa.iN aa.rep
abbrev P2 : Ec (Int × Int) := ⟨110, 2, fun x => [.int .i64 x.1, .int .i64 x.2], (0, 0), fun _ => rfl, fun _ => rfl⟩
theorem mO (p : Option Addr) (n cap : Nat) (ls : List Int) (R : ae) (hn : n = ls.length) (hR : ∀ w0 h, R w0 h → bJ I3 p ls.length ls w0 h) (hE : ab.aO ls = 0) : aD Tryz.prog 83 [.slice p n cap] [R] (aK fun v G => ∃ b, v = .pointer (some ⟨b, 0, none⟩) ∧ G = [HC b ls, R]) :=
 (Dr p n cap ls R hn hR).ok (x := ()) (by unfold aa.iN; rw [if_pos hE])
theorem uA (p : Option Addr) (n cap : Nat) (ls : List Int) (R : ae) (hn : n = ls.length) (hR : ∀ w0 h, R w0 h → bJ I3 p ls.length ls w0 h) (hE : ab.aO ls ≠ 0) : aD Tryz.prog 83 [.slice p n cap] [R] (sa fun ch G => PE 4 ch ∧ G = []) :=
 (Dr p n cap ls R hn hR).err (by unfold aa.iN; rw [if_neg hE])
theorem DG (x n : Int) (hn : 0 ≤ n ∧ n < 1000000) : aD Tryz.prog 82 [.int .i64 x, .int .i64 n] [] (aK fun v G => ∃ p c, v = .slice p n.toNat c ∧ G = [Row I3 p n.toNat c (List.replicate n.toNat x)]) := by
 have h := Ah x n.toNat (by omega)
 rw [Int.toNat_of_nonneg hn.1] at h
 exact h
theorem Hz (b bl : Nat) (sz mo : Int) (po : Option Addr) (no co : Nat) (li di : Value) (s : aa.St) : aD Tryz.prog 64 [.pointer (some ⟨b, 0, none⟩)] [av b 75 [.pointer (some ⟨bl, 0, none⟩), .int .i64 sz, .int .i64 mo, .slice po no co, .bool s.ended, .int .i64 0, .int .i64 s.kind, .int .i64 (s.left : Int), .bool s.last, li, di, .int .i64 (s.aq : Int), .int .i64 (s.aL : Int)]] (aK fun v G => ∃ l d, v = .tuple #[] ∧ G = [av b 75 [.pointer (some ⟨bl, 0, none⟩), .int .i64 sz, .int .i64 mo, .slice po no co, .bool s.ended, .int .i64 0, .int .i64 s.kind, .int .i64 (s.left : Int), .bool s.last, (.pointer (some ⟨l, 0, none⟩)), (.pointer (some ⟨d, 0, none⟩)), .int .i64 (s.aq : Int), .int .i64 (s.aL : Int)], HC l aa.bF, HC d aa.fu]) := by
 refine ax [(0, _)] Tryz.func64 rfl Tryz.ntmps64 rfl rfl ?_
 intro w0 F
 refine rT lC 8 rfl ?_
 iterate 4 refine oV (xi V.rf V.ui rfl (cs := [_, _]) rfl) ?_
 refine bP (P2) aa.fI V.vv V.ui rfl rfl rfl rfl rfl rfl ?_
 intro b9
 refine rO lC 5 rfl ?_
 refine eW (Row I3 none 0 0 (aa.dW 0)) (Row.nil _ _ _) ?_
 refine eJ (fun (k : Nat) (pr : Option Addr) (cr : Nat) => [(0, .pointer (some ⟨b, 0, none⟩)), (2, .slice pr (aa.dW k).length cr), (9, .slice (some ⟨b9, 0, none⟩) 4 4), (10, .int .i64 4), (11, .int .i64 (k : Int))]) (fun (k : Nat) (pr : Option Addr) (cr : Nat) => Row I3 pr (aa.dW k).length cr (aa.dW k) :: Row P2 (some ⟨b9, 0, none⟩) 4 4 aa.fI :: av b 75 [.pointer (some ⟨bl, 0, none⟩), .int .i64 sz, .int .i64 mo, .slice po no co, .bool s.ended, .int .i64 0, .int .i64 s.kind, .int .i64 (s.left : Int), .bool s.last, li, di, .int .i64 (s.aq : Int), .int .i64 (s.aL : Int)] :: F) (fun (k : Nat) (pr : Option Addr) (cr : Nat) => k ≤ 4) (fun (k : Nat) (pr : Option Addr) (cr : Nat) => 4 - k) (i3 (0) (none) (0) ?_ (aX ln) (sub (dU .nil) ao)) ?_
 ·exact Nat.zero_le _
 intro k pr cr
 rintro hk
 refine rL lC 6 rfl ?_
 refine aj rfl (fun h12 => ?_) (fun h12 => ?_)
 ·refine rC lC 6 rfl ?_
  refine oV (xI V.vv (own bB)) ?_
  refine oV (dQ (c := (P2)) V.AR rfl (own bB) (by omega) (by omega) rfl) ?_
  refine fR V.ui rfl ?_
  intro b4
  refine bM (fc V.AR rfl rfl (us := [_, _]) rfl rfl (by exact dO) (by exact Nat.le_of_ble_eq_true rfl) rfl) ?_
  refine rO lC 2 rfl ?_
  have hf1 : 0 ≤ (P2.g aa.fI (k : Int)).2 ∧ (P2.g aa.fI (k : Int)).2 < 200 := aa.BE (by omega)
  have hf2 := aa.zC k (by omega)
  refine rC lC 2 rfl ?_
  refine oV (eA 0 rfl V.rf rfl rfl (by omega)) ?_
  refine oV (ag V.s3 rfl ak rfl) ?_
  refine oV (eA 1 rfl V.rf rfl rfl (by omega)) ?_
  refine oV (ag V.s3 rfl ak rfl) ?_
  refine ai (DG (P2.g aa.fI (k : Int)).1 (P2.g aa.fI (k : Int)).2 (by omega)) V.FO  rfl .nil rfl ?_
  rintro _ _ ⟨p20, c20, rfl, rfl⟩
  refine bQ (c := (I3)) V.aF V.z3 rfl rfl rfl rfl aS (own ak) (by omega) rfl ?_
  intro p21 c21
  refine bN lC 8 rfl (by omega) ?_
  have hst : aa.dW (k + 1) = aa.dW k ++ List.replicate (P2.g aa.fI (k : Int)).2.toNat (P2.g aa.fI (k : Int)).1 := aa.uZ k
  have hsl : (aa.dW (k + 1)).length = (aa.dW k).length + (P2.g aa.fI (k : Int)).2.toNat := by rw [hst, List.length_append, List.length_replicate]
  rw [← hst, ← hsl]
  refine j3 (k + 1) (_) (_) ?_ (aX ln) (sub (au (.cons aS (.cons aS .nil))) fg)
  exact ⟨by omega, by omega⟩
 ·refine rC lC 5 rfl ?_
  have hk4 : k = 4 := by omega
  have hfl : ab.aO (aa.dW k) = 0 := by rw [hk4, aa.qf]; exact aa.kU
  refine rC lC 4 rfl ?_
  refine ai (mO pr (aa.dW k).length cr (aa.dW k) (Row I3 pr (aa.dW k).length cr (aa.dW k)) rfl (fun _ _ hh => kz rfl hh) hfl) V.sZ  rfl (au .nil) rfl ?_
  rintro _ _ ⟨l26, rfl, rfl⟩
  refine ai (Ah 5 32 (by omega)) V.FO  rfl .nil rfl ?_
  rintro _ _ ⟨p27, c27, rfl, rfl⟩
  refine ai (mO p27 32 c27 (List.replicate 32 5) (Row I3 p27 32 c27 (List.replicate 32 5)) rfl (fun _ _ hh => kz rfl hh) aa.lX) V.sZ  rfl (au .nil) rfl ?_
  rintro _ _ ⟨d28, rfl, rfl⟩
  refine rO lC 2 rfl ?_
  refine bM (bV V.uU rfl rfl rfl (by exact GJ) (by exact Nat.le_of_ble_eq_true rfl) rfl) ?_
  refine rO lC 2 rfl ?_
  refine bM (bV V.uU rfl rfl rfl (by exact GJ) (by exact Nat.le_of_ble_eq_true rfl) rfl) ?_
  refine bC ?_
  rw [hk4, aa.qf]
  exact dT dN ⟨l26, d28, rfl, rfl⟩ (sub (.cons qy (.cons aS (au .nil))) jj)
end Go.Proofs.YtmbljkghkcgejaaGreat

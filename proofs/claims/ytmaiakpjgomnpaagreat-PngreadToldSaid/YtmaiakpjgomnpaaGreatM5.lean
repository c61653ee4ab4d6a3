/- Walks of functions that the law reaches, and what they lean on; no conditions. -/
import Derived.Test.YtmaiakpjgomnpaaGreatM1
import Derived.KernelRfl
import Derived.Test.YtmaiakpjgomnpaaGreatM4
import Derived.Test.YtmaiakpjgomnpaaGreatM2
set_option linter.unusedVariables false
set_option linter.unusedSimpArgs false
set_option maxRecDepth 100000
namespace Go.Proofs.YtmaiakpjgomnpaaGreat
open Go.Sl 
theorem R0 : dU Tryz.prog ⟨[], []⟩ = true := by kernel_rfl
theorem DO (p : Option Addr) (cap : Nat) (ls : List Int) (R : ad) (hR : ∀ w0 h, R w0 h → aS I3 p ls.length ls w0 h) (hE : af.cg ls = 0) : aG Tryz.prog 195 [.slice p ls.length cap] [R] (aQ fun v G => ∃ b, v = .tuple #[.pointer (some ⟨b, 0, none⟩), .int .i64 0] ∧ G = [HC b ls, R]) := by
 refine (Hg p cap ls R hR).mono ?_
 rintro e G ⟨v, rfl, h⟩
 rcases h with ⟨_, b, h1, h2⟩ | ⟨h, _⟩
 ·exact ⟨v, rfl, b, h1, h2⟩
 ·exact absurd hE h
theorem FL (p : Option Addr) (cap : Nat) (ls : List Int) (R : ad) (hR : ∀ w0 h, R w0 h → aS I3 p ls.length ls w0 h) (hE : ¬ af.cg ls = 0) : aG Tryz.prog 195 [.slice p ls.length cap] [R] (aQ fun v G => v = .tuple #[.pointer none, .int .i64 (af.cg ls)] ∧ G = [R]) := by
 refine (Hg p cap ls R hR).mono ?_
 rintro e G ⟨v, rfl, h⟩
 rcases h with ⟨h, _⟩ | ⟨_, h1, h2⟩
 ·exact absurd h hE
 ·exact ⟨v, rfl, h1, h2⟩
end Go.Proofs.YtmaiakpjgomnpaaGreat
namespace Go.Proofs.YtmaiakpjgomnpaaGreat
open Go.Sl 
theorem rB : dU Tryz.prog ⟨[], [(223, 3, 3)]⟩ = true := by kernel_rfl
theorem kU (e : Int) : aG Tryz.prog 197 [.bool true, .int .i64 e] [] (aQ fun v G => v = .tuple #[] ∧ G = []) := by
 refine av [(0, _), (1, _)] Tryz.func197 rfl Tryz.ntmps197 rfl rfl ?_
 intro w0 F
 refine rT rB 8 rfl ?_
 exact jb fI ⟨rfl, rfl⟩ (sub .nil aw)
theorem iP (e : Int) : aG Tryz.prog 197 [.bool false, .int .i64 e] [] (rG fun ch G => ch = ku 27 (.int .i64 e) ∧ G = []) := by
 refine av [(0, _), (1, _)] Tryz.func197 rfl Tryz.ntmps197 rfl rfl ?_
 intro w0 F
 refine rT rB 9 rfl ?_
 refine oV (uF V.C9 rfl) ?_
 refine uT rfl ?_
 skip
 exact wR (G := []) ⟨rfl, rfl⟩ (sub .nil aw)
theorem M1 (b bl : Nat) (sz mo : Int) (li di : Value) (s : ab.St) (yb : Int) (hy : 0 ≤ yb ∧ yb < 256) (hm : mo < 1000000000) : aG Tryz.prog 179 [.pointer (some ⟨b, 0, none⟩), .int .u8 yb] [MS b bl sz mo li di s] (iF (ab.eY mo s yb) (fun s2 v G => v = .tuple #[] ∧ G = [MS b bl sz mo li di s2]) [MX b bl sz mo]) := by
 refine av [(0, _), (1, _)] Tryz.func179 rfl Tryz.ntmps179 rfl rfl ?_
 intro w0 F
 refine gD (fun h hh => hh) ?_
 rintro ⟨po, co⟩ _
 dsimp only
 rcases (Classical.em ((s.out.length : Int) < mo)) with hx | hx
 ·refine rT rB 1 rfl ?_
  refine wN [pz 0 [] [0], pz 1 [0] [], pz 3 [1] [], pz 7 [2] [], pz 15 [3] [], pz 0 [] [0], pz 32 [5] [], pz 96 [6] [], pz 224 [7] [], pz 511 [4, 8] [], pz 1023 [9] []] [⟨fun y => ao b 223 [.pointer (some ⟨bl, 0, none⟩), .int .i64 sz, .int .i64 mo, .slice po s.out.length co, .bool s.ended, .int .i64 0, .int .i64 s.kind, .int .i64 (s.left : Int), .bool s.last, li, di, .int .i64 (s.aB : Int), .int .i64 (s.cE : Int)], none, none, [3, 8]⟩, ⟨fun y => Row U5 po s.out.length co s.out, none, none, []⟩] F V.mixed ?_
  refine nM ?_
  refine nN ?_
  refine nG V.kP ?_
  refine nR (fun y FF hA => ae V.eC rfl an rfl) ?_
  refine nV (fun y hA L => ez (ty' := 0) Tryz.underlying22 rfl) ?_
  refine nM ?_
  refine nN ?_
  refine nG V.DV ?_
  refine nR (fun y FF hA => ae V.s3 rfl an rfl) ?_
  refine nV (fun y hA L => aW (bu rfl rfl) hx) ?_
  refine nE (fun y FF hA => bO (Post := []) (kU 6) V.iO rfl .nil (fun v G h => by rcases h with ⟨rfl, rfl⟩; exact ⟨rfl, .refl _⟩)) ?_
  refine aX ?_
  intro y hA
  clear hA
  refine bN ?_
  refine cu _ (.cons (d := 0) rfl (.cons (d := 1) rfl (.nil _))) ?_
  refine bS (M := ao b 223 [.pointer (some ⟨bl, 0, none⟩), .int .i64 sz, .int .i64 mo, .slice po s.out.length co, .bool s.ended, .int .i64 0, .int .i64 s.kind, .int .i64 (s.left : Int), .bool s.last, li, di, .int .i64 (s.aB : Int), .int .i64 (s.cE : Int)] :: Row U5 po s.out.length co s.out :: F) (fun _ _ h => h) ?_
  refine rC rB 5 rfl ?_
  refine oV (ae V.eC rfl an rfl) ?_
  refine oV (aK rfl) ?_
  refine cV (U5) [yb] V.bY V.z5 rfl rfl rfl rfl rfl rfl ?_
  intro mn
  refine dw (c := (U5)) V.bY V.z5 rfl rfl rfl rfl bX (own an) (by omega) rfl ?_
  intro p22 c22
  refine rO rB 2 rfl ?_
  refine aU (bZ V.eC rfl rfl rfl (by exact ni) (by exact Nat.le_of_ble_eq_true rfl) rfl) ?_
  refine cW ?_
  exact iw (x := { s with out := s.out ++ [yb] }) (by unfold ab.eY; rw [if_pos hx]) fI ⟨rfl, rfl⟩ ((aV (.cons bX (ar .nil)) cD (fun w0 h hh => dz (s := { s with out := s.out ++ [yb] }) (by simp) hh)))
 ·refine rT rB 1 rfl ?_
  refine wN [pz 0 [] [0], pz 1 [0] [], pz 3 [1] [], pz 7 [2] [], pz 15 [3] [], pz 0 [] [0], pz 32 [5] [], pz 96 [6] [], pz 224 [7] [], pz 511 [4, 8] [], pz 1023 [9] []] [⟨fun y => ao b 223 [.pointer (some ⟨bl, 0, none⟩), .int .i64 sz, .int .i64 mo, .slice po s.out.length co, .bool s.ended, .int .i64 0, .int .i64 s.kind, .int .i64 (s.left : Int), .bool s.last, li, di, .int .i64 (s.aB : Int), .int .i64 (s.cE : Int)], none, none, [3, 8, 10]⟩, ⟨fun y => Row U5 po s.out.length co s.out, none, none, []⟩] F V.mixed ?_
  refine nM ?_
  refine nN ?_
  refine nG V.kP ?_
  refine nR (fun y FF hA => ae V.eC rfl an rfl) ?_
  refine nV (fun y hA L => ez (ty' := 0) Tryz.underlying22 rfl) ?_
  refine nM ?_
  refine nN ?_
  refine nG V.DV ?_
  refine nR (fun y FF hA => ae V.s3 rfl an rfl) ?_
  refine nV (fun y hA L => aA (bu rfl rfl) hx) ?_
  refine bM (undef) _ _ (fun y => rfl) rfl (fun y => rfl) (fun y FF hA => fZ (iP 6) V.iO rfl .nil (by rintro _ _ ⟨rfl, rfl⟩; exact lA (by unfold ab.eY; rw [if_neg hx]) (PE.no (by decide)) (aV (ar .nil) (by exact vn (M := FF) (F := F)) (fun w0 h hh => cU hh)))) ?_
  refine aX ?_
  intro y hA
  exact (dO.fact (hA 10 (by exact Nat.le_of_ble_eq_true rfl)) (q := fun _ => False) rfl).elim
end Go.Proofs.YtmaiakpjgomnpaaGreat
namespace Go.Proofs.YtmaiakpjgomnpaaGreat
open Go.Sl 
theorem jt : dU Tryz.prog ⟨[], [(156, 2, 2), (236, 0, 0)]⟩ = true := by kernel_rfl
attribute [local irreducible] af.cg af.tk af.ord af.cM af.words af.dj ab.iN ab.iK
theorem CB (p : Option Addr) (n cap : Nat) (ls : List Int) (R : ad) (hn : n = ls.length) (hR : ∀ w0 h, R w0 h → aS I3 p ls.length ls w0 h) : aG Tryz.prog 221 [.slice p n cap] [R] (iF (ab.ju ls) (fun _ v G => ∃ b, v = .pointer (some ⟨b, 0, none⟩) ∧ G = [HC b ls, R]) []) := by
 subst hn
 refine av [(0, _)] Tryz.func221 rfl Tryz.ntmps221 rfl rfl ?_
 intro w0 F
 refine rT jt 5 rfl ?_
 rcases (Classical.em (af.cg ls = 0)) with hE | hE
 ·refine rC jt 3 rfl ?_
  refine ai (DO p cap ls R hR hE) V.Kv  rfl (ar .nil) rfl ?_
  rintro _ _ ⟨bh, rfl, rfl⟩
  refine rO jt 10 rfl ?_
  refine oV (aW (az rfl rfl) rfl) ?_
  refine ai (kU 4) V.iO  rfl .nil rfl ?_
  rintro _ _ ⟨rfl, rfl⟩
  refine rO jt 9 rfl ?_
  exact kN (x := ()) (by unfold ab.ju; rw [if_pos hE]) (aC rfl) ⟨bh, rfl, rfl⟩ (sub (bF .nil) aw)
 ·refine rC jt 3 rfl ?_
  refine ai (FL p cap ls R hR hE) V.Kv  rfl (ar .nil) rfl ?_
  rintro _ _ ⟨rfl, rfl⟩
  refine rO jt 10 rfl ?_
  refine oV (aA (az rfl rfl) hE) ?_
  refine dK (iP 4) V.iO rfl .nil ?_
  rintro _ _ ⟨rfl, rfl⟩
  refine (dZ ?_)
  exact eA (e := 4) (by unfold ab.ju; rw [if_neg hE]) (PE.no (by decide)) (sub .nil cD)
theorem AO (x : Int) (n : Nat) (hn : n < 1000000) : aG Tryz.prog 220 [.int .i64 x, .int .i64 (n : Int)] [] (aQ fun v G => ∃ p c, v = .slice p n c ∧ G = [Row I3 p n c (List.replicate n x)]) := by
 refine av [(0, _), (1, _)] Tryz.func220 rfl Tryz.ntmps220 rfl rfl ?_
 intro w0 F
 refine rT jt 18 rfl ?_
 refine gp (Row I3 none 0 0 (List.replicate 0 x)) (Row.nil _ _ _) ?_
 refine iR (fun (k : Nat) (po : Option Addr) (co : Nat) => [(0, .int .i64 x), (5, .slice po k co), (6, .int .i64 (n : Int)), (7, .int .i64 (k : Int))]) (fun (k : Nat) (po : Option Addr) (co : Nat) => Row I3 po k co (List.replicate k x) :: F) (fun (k : Nat) (po : Option Addr) (co : Nat) => k ≤ n) (fun (k : Nat) (po : Option Addr) (co : Nat) => n - k) (i3 (0) (none) (0) ?_ (fo ln) (sub (ar .nil) aw)) ?_
 ·exact Nat.zero_le _
 intro k po co
 rintro hk
 refine rL jt 6 rfl ?_
 refine aN rfl (fun h8 => ?_) (fun h8 => ?_)
 ·refine rC jt 7 rfl ?_
  refine cV (I3) [x] V.cT V.z3 rfl rfl rfl rfl rfl rfl ?_
  intro b11
  refine dw (c := (I3)) V.cT V.z3 rfl rfl rfl rfl ay (own an) (by omega) rfl ?_
  intro p12 c12
  refine cQ jt 8 rfl (by omega) ?_
  rw [← List.replicate_succ']
  refine j3 (k + 1) (_) (_) ?_ (fo ln) (sub (ar .nil) cD)
  exact ⟨by omega, by omega⟩
 ·refine rC jt 12 rfl ?_
  obtain rfl : k = n := by omega
  exact ak (aC rfl) ⟨po, co, rfl, rfl⟩ (sub (ar .nil) aw)
theorem IE  : aG Tryz.prog 222 [] [] (aQ fun v G => ∃ p, v = .slice p 19 19 ∧ G = [Row I3 p 19 19 ab.mF]) := by
 refine av [] Tryz.func222 rfl Tryz.ntmps222 rfl rfl ?_
 intro w0 F
 refine rT jt 7 rfl ?_
 refine cV (I3) [16, 17, 18, 0, 8, 7, 9, 6, 10, 5, 11, 4, 12, 3, 13, 2, 14, 1, 15] V.cT V.z3 rfl rfl rfl rfl rfl rfl ?_
 intro b1
 refine rO jt 4 rfl ?_
 exact ak (aC rfl) ⟨_, rfl, rfl⟩ (sub (ar .nil) aw)
theorem Hm (b : Nat) (B : List Int) (at_ : Nat) (out : List Int) (free : Int) (hl : B.length < 500000000) (ha : at_ ≤ 8 * B.length) : aG Tryz.prog 198 [.pointer (some ⟨b, 0, none⟩)] [LW b B at_ out free] (aQ fun v G => v = .tuple #[] ∧ G = [LW b B (ab.dN at_) out free]) := by
 refine av [(0, _)] Tryz.func198 rfl Tryz.ntmps198 rfl rfl ?_
 intro w0 F
 refine gD (fun h hh => hh) ?_
 rintro ⟨p1, c1, p2, c2⟩ _
 dsimp only
 refine rT jt 6 rfl ?_
 refine oV (ae V.s3 rfl an rfl) ?_
 refine cQ jt 2 rfl (by omega) ?_
 refine oV (fY rfl rfl (by omega) (jL (by omega) (by omega) (by omega))) ?_
 refine cQ jt 4 rfl (by omega) ?_
 refine aU (bZ V.s3 rfl rfl rfl (by exact cY) (by exact Nat.le_of_ble_eq_true rfl) rfl) ?_
 refine cW ?_
 rw [show ((at_ : Int) + 8 - 1) / 8 * 8 = ((ab.dN at_ : Nat) : Int) from by unfold ab.dN; omega]
 exact jb fI ⟨rfl, rfl⟩ (aV (gm .nil) aw (fun w0 h hh => o0 hh))
theorem oI (b : Nat) (ls : List Int) (b2 : Nat) (B : List Int) (at_ : Nat) (out : List Int) (free : Int) (hE : af.cg ls = 0) (hl : B.length < 500000000) (hB : aj.au B) (ha : at_ ≤ 8 * B.length) : aG Tryz.prog 201 [.pointer (some ⟨b, 0, none⟩), .pointer (some ⟨b2, 0, none⟩)] [HC b ls, LW b2 B at_ out free] (iF (ab.sym ls B at_) (fun x v G => v = .int .i64 x.1 ∧ G = [HC b ls, LW b2 B x.2 out free]) []) := by
 intro w0 F w hi
 refine (KN b ls b2 B at_ out free hE hl hB ha w0 F w hi).mono ?_
 rintro e w' ⟨G, h1, (⟨v, rfl, n', s', h, rfl, rfl⟩ | ⟨ch, rfl, (⟨n', h, rfl, rfl⟩ | ⟨n', h, rfl, rfl⟩)⟩)⟩
 ·exact ⟨_, h1, .inl ⟨_, rfl, (s', at_ + n'), by unfold ab.sym; rw [h], rfl, rfl⟩⟩
 ·exact ⟨[], h1.right, .inr ⟨_, rfl, 2, by unfold ab.sym; rw [h], PE.end_, rfl⟩⟩
 ·exact ⟨[], h1.right, .inr ⟨_, rfl, 4, by unfold ab.sym; rw [h], PE.none_, rfl⟩⟩
end Go.Proofs.YtmaiakpjgomnpaaGreat
namespace Go.Proofs.YtmaiakpjgomnpaaGreat
open Go.Sl 
theorem fq : dU Tryz.prog ⟨[47], [(223, 0, 0), (223, 4, 4), (223, 6, 6), (223, 8, 8)]⟩ = true := by kernel_rfl
attribute [local irreducible] af.cg af.tk af.ord af.cM af.words af.dj ab.iN ab.iK
theorem yQ (b bl : Nat) (sz mo : Int) (po : Option Addr) (no co : Nat) (li di : Value) (s : ab.St) : aG Tryz.prog 182 [.pointer (some ⟨b, 0, none⟩)] [ao b 223 [.pointer (some ⟨bl, 0, none⟩), .int .i64 sz, .int .i64 mo, .slice po no co, .bool s.ended, .int .i64 0, .int .i64 s.kind, .int .i64 (s.left : Int), .bool s.last, li, di, .int .i64 (s.aB : Int), .int .i64 (s.cE : Int)]] (aQ fun v G => v = .tuple #[] ∧ G = [ao b 223 [.pointer (some ⟨bl, 0, none⟩), .int .i64 sz, .int .i64 mo, .slice po no co, .bool s.last, .int .i64 0, .int .i64 (-1), .int .i64 (s.left : Int), .bool s.last, li, di, .int .i64 (s.aB : Int), .int .i64 (s.cE : Int)]]) := by
 refine av [(0, _)] Tryz.func182 rfl Tryz.ntmps182 rfl rfl ?_
 intro w0 F
 refine rT fq 6 rfl ?_
 refine oV (ae V.s4 rfl an rfl) ?_
 refine rO fq 2 rfl ?_
 refine aU (bZ V.s3 rfl rfl rfl (by exact cY) (by exact Nat.le_of_ble_eq_true rfl) rfl) ?_
 refine rO fq 2 rfl ?_
 refine aU (bZ V.s4 rfl rfl rfl (by exact cY) (by exact Nat.le_of_ble_eq_true rfl) rfl) ?_
 refine cW ?_
 exact jb fI ⟨rfl, rfl⟩ (sub (ar .nil) aw)
set_option maxHeartbeats 1000000 in
theorem Gn (b bl : Nat) (sz mo : Int) (po : Option Addr) (no co : Nat) (li di : Value) (s : ab.St) (B : List Int) (a : Nat) (sy : Int) (pl : Option Addr) (cl : Nat) (l : List Int) (hs : 0 ≤ sy ∧ sy ≤ 18) (hl : B.length < 500000000) (hB : aj.au B) (ha : a ≤ 8 * B.length) (hll : l.length < 1000000) : aG Tryz.prog 223 [.pointer (some ⟨b, 0, none⟩), .int .i64 sy, .slice pl l.length cl] [ao b 223 [.pointer (some ⟨bl, 0, none⟩), .int .i64 sz, .int .i64 mo, .slice po no co, .bool s.ended, .int .i64 0, .int .i64 s.kind, .int .i64 (s.left : Int), .bool s.last, li, di, .int .i64 (s.aB : Int), .int .i64 (s.cE : Int)], LW bl B a [] 0, Row I3 pl l.length cl l] (iF (ab.rep B sy l a) (fun x v G => v = .tuple #[.int .i64 x.1, .int .i64 x.2.1] ∧ G = [ao b 223 [.pointer (some ⟨bl, 0, none⟩), .int .i64 sz, .int .i64 mo, .slice po no co, .bool s.ended, .int .i64 0, .int .i64 s.kind, .int .i64 (s.left : Int), .bool s.last, li, di, .int .i64 (s.aB : Int), .int .i64 (s.cE : Int)], LW bl B x.2.2 [] 0, Row I3 pl l.length cl l]) [MX b bl sz mo]) := by
 refine av [(0, _), (1, _), (2, _)] Tryz.func223 rfl Tryz.ntmps223 rfl rfl ?_
 intro w0 F
 refine rT fq 19 rfl ?_
 refine aN rfl (fun h10 => ?_) (fun h10 => ?_)
 ·rcases (Nat.lt_or_ge (8 * B.length) (a + 2)) with hx | hx
  ·refine rC fq 1 rfl ?_
   have hy : sy = 16 := h10
   subst hy
   have hnb := aj.cH B a 2
   refine rC fq 4 rfl ?_
   refine oV (ae V.dV rfl an rfl) ?_
   refine dK (gA bl B a [] 0 2 hl hB (by omega) (by omega) (by omega)) V.fm rfl (.cons ay .nil) ?_
   rintro _ _ ⟨rfl, rfl⟩
   refine (dZ (fC (dZ ?_)))
   exact eA (e := 2) (ab.qJ (by decide) (show 8 * B.length < a + 2 from hx)) PE.end_ (aV (.cons ay .nil) ie (fun w0 h hh => cU hh))
  ·refine rC fq 1 rfl ?_
   have hy : sy = 16 := h10
   subst hy
   have hnb := aj.cH B a 2
   refine rC fq 4 rfl ?_
   refine oV (ae V.dV rfl an rfl) ?_
   refine ai (fP bl B a [] 0 2 hl hB (by omega) (by omega)) V.fm  rfl (.cons ay .nil) rfl ?_
   rintro _ _ ⟨rfl, rfl⟩
   refine cQ fq 4 rfl (by omega) ?_
   rcases (Nat.eq_zero_or_pos l.length) with hl0 | hl0
   ·refine rC fq 4 rfl ?_
    refine oV (aA (bd rfl rfl) (by omega)) ?_
    refine dK (iP 4) V.iO rfl .nil ?_
    rintro _ _ ⟨rfl, rfl⟩
    refine (dZ (fC (dZ ?_)))
    exact eA (e := 4) (ab.E3 rfl (List.length_eq_zero_iff.1 hl0) (show ¬ 8 * B.length < a + 2 from by omega)) (PE.no (by decide)) (aV (.cons ay .nil) ie (fun w0 h hh => cU hh))
   ·refine rC fq 4 rfl ?_
    refine oV (aW (bd rfl rfl) (by omega)) ?_
    refine ai (kU 4) V.iO  rfl .nil rfl ?_
    rintro _ _ ⟨rfl, rfl⟩
    refine rO fq 3 rfl ?_
    have hgl : I3.g l ((l.length : Int) - 1) = l.getD (l.length - 1) 0 := gE _ (by omega)
    refine fH fq 5 rfl (by omega) ?_
    refine oV (xI V.cT (own dJ)) ?_
    refine oV (xL V.s3 (own dJ)) ?_
    refine rO fq 8 rfl ?_
    rw [hgl]
    exact kN (x := (l.getD (l.length - 1) 0, 3 + aj.aT B a 2, a + 2)) (ab.xF (by decide) (show ¬ 8 * B.length < a + 2 from by omega) (fun h => by rw [h.2] at hl0; simp at hl0)) (fD rfl rfl) ⟨rfl, rfl⟩ (sub (.cons ay (bF .nil)) aw)
 ·refine rC fq 6 rfl ?_
  refine aN rfl (fun h29 => ?_) (fun h29 => ?_)
  ·rcases (Nat.lt_or_ge (8 * B.length) (a + 3)) with hx | hx
   ·refine rC fq 1 rfl ?_
    have hy : sy = 17 := h29
    subst hy
    have hnb := aj.cH B a 3
    refine rC fq 4 rfl ?_
    refine oV (ae V.dV rfl an rfl) ?_
    refine dK (gA bl B a [] 0 3 hl hB (by omega) (by omega) (by omega)) V.fm rfl (.cons ay .nil) ?_
    rintro _ _ ⟨rfl, rfl⟩
    refine (dZ (fC (dZ ?_)))
    exact eA (e := 2) (ab.qJ (by decide) (show 8 * B.length < a + 3 from hx)) PE.end_ (aV (.cons ay .nil) ie (fun w0 h hh => cU hh))
   ·refine rC fq 1 rfl ?_
    have hy : sy = 17 := h29
    subst hy
    have hnb := aj.cH B a 3
    refine rC fq 4 rfl ?_
    refine oV (ae V.dV rfl an rfl) ?_
    refine ai (fP bl B a [] 0 3 hl hB (by omega) (by omega)) V.fm  rfl (.cons ay .nil) rfl ?_
    rintro _ _ ⟨rfl, rfl⟩
    refine cQ fq 8 rfl (by omega) ?_
    exact kN (x := (0, 3 + aj.aT B a 3, a + 3)) (ab.xF (by decide) (show ¬ 8 * B.length < a + 3 from by omega) (fun h => absurd h.1 (by decide))) (fD rfl rfl) ⟨rfl, rfl⟩ (sub (.cons ay (bF .nil)) aw)
  ·refine rC fq 6 rfl ?_
   refine aN rfl (fun h37 => ?_) (fun h37 => ?_)
   ·rcases (Nat.lt_or_ge (8 * B.length) (a + 7)) with hx | hx
    ·refine rC fq 1 rfl ?_
     have hy : sy = 18 := h37
     subst hy
     have hnb := aj.cH B a 7
     refine rC fq 4 rfl ?_
     refine oV (ae V.dV rfl an rfl) ?_
     refine dK (gA bl B a [] 0 7 hl hB (by omega) (by omega) (by omega)) V.fm rfl (.cons ay .nil) ?_
     rintro _ _ ⟨rfl, rfl⟩
     refine (dZ (fC (dZ ?_)))
     exact eA (e := 2) (ab.qJ (by decide) (show 8 * B.length < a + 7 from hx)) PE.end_ (aV (.cons ay .nil) ie (fun w0 h hh => cU hh))
    ·refine rC fq 1 rfl ?_
     have hy : sy = 18 := h37
     subst hy
     have hnb := aj.cH B a 7
     refine rC fq 4 rfl ?_
     refine oV (ae V.dV rfl an rfl) ?_
     refine ai (fP bl B a [] 0 7 hl hB (by omega) (by omega)) V.fm  rfl (.cons ay .nil) rfl ?_
     rintro _ _ ⟨rfl, rfl⟩
     refine cQ fq 8 rfl (by omega) ?_
     exact kN (x := (0, 11 + aj.aT B a 7, a + 7)) (ab.xF (by decide) (show ¬ 8 * B.length < a + 7 from by omega) (fun h => absurd h.1 (by decide))) (fD rfl rfl) ⟨rfl, rfl⟩ (sub (.cons ay (bF .nil)) aw)
   ·refine rC fq 11 rfl ?_
    exact kN (x := (sy, 1, a)) (ab.Mj (by omega)) (fD rfl rfl) ⟨rfl, rfl⟩ (sub (gm .nil) aw)
end Go.Proofs.YtmaiakpjgomnpaaGreat
namespace Go.Sl
section
variable {C : Ctx} {E : Env} {L F : List ad} {ops : Array Oper} {d : Option Nat} {ty : TypeId} {pos : String} {aft : Array Edge}
theorem sj {A : Nat → ad} {f : FuncId} {args : List Operand} {tys : Array TypeId} {vs : List Value} {Pre Post : List ad} (hS : aG C.P f vs Pre (aQ fun v G => ∃ b, v = .pointer (some ⟨b, 0, none⟩) ∧ G = A b :: Post)) (hb : aH C.P f = true) (hE : iL E args = some vs) (hL : fJ L Pre F) :
    Step C ops ⟨d, .call ⟨.value (.func f), args.toArray, tys⟩, ty, pos, aft, none⟩ E L (fun v L' => v = .pointer (some ⟨gC v, 0, none⟩) ∧ True ∧ L'.Perm ((A (gC v) :: Post) ++ F)) :=
  re hS hb hE hL fun v G ⟨b, e1, e2⟩ => by subst e1; subst e2; exact ⟨rfl, trivial, .refl _⟩
theorem kY {t n e sz : Nat} {parts : List (Nat × Operand)} {pv : List (Nat × Value)} {zs cs : List Value} (har : jT C.P t = some (n, e, sz)) (hz : dH C.P t = some zs) (hp : oS E parts = some pv) (hf : Instr.fill (fun i => some (i * sz, sz)) zs.toArray pv = some cs.toArray) :
    cF C (.build t parts.toArray) ty E L (.agg cs.toArray) L :=
  dS fun d pos aft g a w ha => by
    obtain ⟨i', z, hz1, hz2, hz3, hz4⟩ := kh hz
    have hmap : parts.toArray.map (fun x => match x with | (i, x) => (i, a.eval x)) = pv.toArray := by
      rw [← nS hp a ha]; simp
    unfold jT at har
    split at har
    · rename_i n' e' hfs
      split at har
      · rename_i i hi
        cases har
        simp only [execOp, hmap, Instr.build, Sem.run_bind, zeroValue, typeInfo, run_program, Result.andThen_ok, hz1, hz2, Sem.run_pure, run_underlying hfs, run_sizeOf hi, hz3]
        simp [hf]
      · cases har
    · cases har
end
theorem rU {p : Option Addr} {n c m : Nat} {l : List Int} {w0 : World} {h : Hp} (hn : n = l.length) (hm : m ≤ n) (hh : Row I3 p n c l w0 h) : aS I3 p (l.take m).length (l.take m) w0 h := by
  have := hh.rd.sub 0 m m (Nat.zero_le _) hm (Nat.le_refl _)
  rw [nU, Nat.sub_zero, List.drop_zero] at this
  rw [List.length_take, ← hn, Nat.min_eq_left hm]
  exact this
theorem xA {p : Option Addr} {n c m : Nat} {l : List Int} {w0 : World} {h : Hp} (hn : n = l.length) (hm : m ≤ n) (hc : n ≤ c) (hh : Row I3 p n c l w0 h) : aS I3 (eo p m c 1) (l.drop m).length (l.drop m) w0 h := by
  have := hh.rd.sub m n c hm (Nat.le_refl _) hc
  rw [List.take_of_length_le (by rw [List.length_drop]; omega)] at this
  rw [List.length_drop, ← hn]
  exact this
theorem tX {p : Option Addr} {n c : Nat} {l : List Int} {w0 : World} {h : Hp} (hn : n = l.length) (hh : Row I3 p n c l w0 h) : aS I3 p l.length l w0 h := by subst hn; exact hh.rd
end Go.Sl
namespace Go.Proofs.YtmaiakpjgomnpaaGreat
open Go.Sl 
theorem lH : dU Tryz.prog ⟨[247], [(223, 9, 9), (223, 10, 10)]⟩ = true := by kernel_rfl
attribute [local irreducible] af.cg af.tk af.ord af.cM af.words af.dj ab.iK ab.dg ab.dE ab.ew ab.hL ab.hD ab.hC ab.fF ab.told ab.ga ab.ju ab.rep
abbrev P2 : Ec (Int × Int) := ⟨246, 2, fun x => [.int .i64 x.1, .int .i64 x.2], (0, 0), fun _ => rfl, fun _ => rfl⟩
theorem mR (p : Option Addr) (n cap : Nat) (ls : List Int) (R : ad) (hn : n = ls.length) (hR : ∀ w0 h, R w0 h → aS I3 p ls.length ls w0 h) (hE : af.cg ls = 0) : aG Tryz.prog 221 [.slice p n cap] [R] (aQ fun v G => ∃ b, v = .pointer (some ⟨b, 0, none⟩) ∧ G = [HC b ls, R]) :=
 (CB p n cap ls R hn hR).ok (x := ()) (by unfold ab.ju; rw [if_pos hE])
theorem uN (p : Option Addr) (n cap : Nat) (ls : List Int) (R : ad) (hn : n = ls.length) (hR : ∀ w0 h, R w0 h → aS I3 p ls.length ls w0 h) (hE : af.cg ls ≠ 0) : aG Tryz.prog 221 [.slice p n cap] [R] (rG fun ch G => PE 4 ch ∧ G = []) :=
 (CB p n cap ls R hn hR).err (by unfold ab.ju; rw [if_neg hE])
theorem Co (x n : Int) (hn : 0 ≤ n ∧ n < 1000000) : aG Tryz.prog 220 [.int .i64 x, .int .i64 n] [] (aQ fun v G => ∃ p c, v = .slice p n.toNat c ∧ G = [Row I3 p n.toNat c (List.replicate n.toNat x)]) := by
 have h := AO x n.toNat (by omega)
 rw [Int.toNat_of_nonneg hn.1] at h
 exact h
theorem IN (b bl : Nat) (sz mo : Int) (po : Option Addr) (no co : Nat) (li di : Value) (s : ab.St) : aG Tryz.prog 199 [.pointer (some ⟨b, 0, none⟩)] [ao b 223 [.pointer (some ⟨bl, 0, none⟩), .int .i64 sz, .int .i64 mo, .slice po no co, .bool s.ended, .int .i64 0, .int .i64 s.kind, .int .i64 (s.left : Int), .bool s.last, li, di, .int .i64 (s.aB : Int), .int .i64 (s.cE : Int)]] (aQ fun v G => ∃ l d, v = .tuple #[] ∧ G = [ao b 223 [.pointer (some ⟨bl, 0, none⟩), .int .i64 sz, .int .i64 mo, .slice po no co, .bool s.ended, .int .i64 0, .int .i64 s.kind, .int .i64 (s.left : Int), .bool s.last, (.pointer (some ⟨l, 0, none⟩)), (.pointer (some ⟨d, 0, none⟩)), .int .i64 (s.aB : Int), .int .i64 (s.cE : Int)], HC l ab.ga, HC d ab.lB]) := by
 refine av [(0, _)] Tryz.func199 rfl Tryz.ntmps199 rfl rfl ?_
 intro w0 F
 refine rT lH 8 rfl ?_
 iterate 4 refine oV (kY V.AG V.EV rfl (cs := [_, _]) rfl) ?_
 refine cV (P2) ab.jf V.Gq V.EV rfl rfl rfl rfl rfl rfl ?_
 intro b9
 refine rO lH 5 rfl ?_
 refine gp (Row I3 none 0 0 (ab.iN 0)) (Row.nil _ _ _) ?_
 refine iR (fun (k : Nat) (pr : Option Addr) (cr : Nat) => [(0, .pointer (some ⟨b, 0, none⟩)), (2, .slice pr (ab.iN k).length cr), (9, .slice (some ⟨b9, 0, none⟩) 4 4), (10, .int .i64 4), (11, .int .i64 (k : Int))]) (fun (k : Nat) (pr : Option Addr) (cr : Nat) => Row I3 pr (ab.iN k).length cr (ab.iN k) :: Row P2 (some ⟨b9, 0, none⟩) 4 4 ab.jf :: ao b 223 [.pointer (some ⟨bl, 0, none⟩), .int .i64 sz, .int .i64 mo, .slice po no co, .bool s.ended, .int .i64 0, .int .i64 s.kind, .int .i64 (s.left : Int), .bool s.last, li, di, .int .i64 (s.aB : Int), .int .i64 (s.cE : Int)] :: F) (fun (k : Nat) (pr : Option Addr) (cr : Nat) => k ≤ 4) (fun (k : Nat) (pr : Option Addr) (cr : Nat) => 4 - k) (i3 (0) (none) (0) ?_ (dp ln) (sub (gm .nil) aw)) ?_
 ·exact Nat.zero_le _
 intro k pr cr
 rintro hk
 refine rL lH 6 rfl ?_
 refine aN rfl (fun h12 => ?_) (fun h12 => ?_)
 ·refine rC lH 6 rfl ?_
  refine oV (xI V.Gq (own bW)) ?_
  refine oV (oa (c := (P2)) V.MR rfl (own bW) (by omega) (by omega) rfl) ?_
  refine cC V.EV rfl ?_
  intro b4
  refine aU (aF V.MR rfl rfl (us := [_, _]) rfl rfl (by exact cY) (by exact Nat.le_of_ble_eq_true rfl) rfl) ?_
  refine rO lH 2 rfl ?_
  have hf1 : 0 ≤ (P2.g ab.jf (k : Int)).2 ∧ (P2.g ab.jf (k : Int)).2 < 200 := ab.M4 (by omega)
  have hf2 := ab.HS k (by omega)
  refine rC lH 2 rfl ?_
  refine oV (im 0 rfl V.AG rfl rfl (by omega)) ?_
  refine oV (ae V.s3 rfl an rfl) ?_
  refine oV (im 1 rfl V.AG rfl rfl (by omega)) ?_
  refine oV (ae V.s3 rfl an rfl) ?_
  refine ai (Co (P2.g ab.jf (k : Int)).1 (P2.g ab.jf (k : Int)).2 (by omega)) V.AJ  rfl .nil rfl ?_
  rintro _ _ ⟨p20, c20, rfl, rfl⟩
  refine dw (c := (I3)) V.cT V.z3 rfl rfl rfl rfl bX (own an) (by omega) rfl ?_
  intro p21 c21
  refine cQ lH 8 rfl (by omega) ?_
  have hst : ab.iN (k + 1) = ab.iN k ++ List.replicate (P2.g ab.jf (k : Int)).2.toNat (P2.g ab.jf (k : Int)).1 := ab.Cl k
  have hsl : (ab.iN (k + 1)).length = (ab.iN k).length + (P2.g ab.jf (k : Int)).2.toNat := by rw [hst, List.length_append, List.length_replicate]
  rw [← hst, ← hsl]
  refine j3 (k + 1) (_) (_) ?_ (dp ln) (sub (ar (.cons bX (.cons bX .nil))) ie)
  exact ⟨by omega, by omega⟩
 ·refine rC lH 5 rfl ?_
  have hk4 : k = 4 := by omega
  have hfl : af.cg (ab.iN k) = 0 := by rw [hk4, ab.Cf]; exact ab.zi
  refine rC lH 4 rfl ?_
  refine ai (mR pr (ab.iN k).length cr (ab.iN k) (Row I3 pr (ab.iN k).length cr (ab.iN k)) rfl (fun _ _ hh => tX rfl hh) hfl) V.oU  rfl (ar .nil) rfl ?_
  rintro _ _ ⟨l26, rfl, rfl⟩
  refine ai (AO 5 32 (by omega)) V.AJ  rfl .nil rfl ?_
  rintro _ _ ⟨p27, C9, rfl, rfl⟩
  refine ai (mR p27 32 C9 (List.replicate 32 5) (Row I3 p27 32 C9 (List.replicate 32 5)) rfl (fun _ _ hh => tX rfl hh) ab.yF) V.oU  rfl (ar .nil) rfl ?_
  rintro _ _ ⟨d28, rfl, rfl⟩
  refine rO lH 2 rfl ?_
  refine aU (bZ V.pS rfl rfl rfl (by exact DP) (by exact Nat.le_of_ble_eq_true rfl) rfl) ?_
  refine rO lH 2 rfl ?_
  refine aU (bZ V.pS rfl rfl rfl (by exact DP) (by exact Nat.le_of_ble_eq_true rfl) rfl) ?_
  refine cW ?_
  rw [hk4, ab.Cf]
  exact jb fI ⟨l26, d28, rfl, rfl⟩ (sub (.cons kb (.cons bX (ar .nil))) n8)
end Go.Proofs.YtmaiakpjgomnpaaGreat
namespace Go.Proofs.YtmaiakpjgomnpaaGreat
open Go.Sl 
theorem dr : dU Tryz.prog ⟨[47], [(223, 0, 0)]⟩ = true := by kernel_rfl
attribute [local irreducible] af.cg af.tk af.ord af.cM af.words af.dj ab.iK ab.dg ab.dE ab.ew ab.hL ab.hD ab.hC ab.fF ab.told ab.ga ab.ju ab.rep
set_option maxHeartbeats 4000000 in
theorem Ci (b bl : Nat) (sz mo : Int) (po : Option Addr) (no co : Nat) (li di : Value) (s : ab.St) (B : List Int) (a : Nat) (hl : B.length < 500000000) (hB : aj.au B) (ha : a ≤ 8 * B.length) : aG Tryz.prog 200 [.pointer (some ⟨b, 0, none⟩)] [ao b 223 [.pointer (some ⟨bl, 0, none⟩), .int .i64 sz, .int .i64 mo, .slice po no co, .bool s.ended, .int .i64 0, .int .i64 s.kind, .int .i64 (s.left : Int), .bool s.last, li, di, .int .i64 (s.aB : Int), .int .i64 (s.cE : Int)], LW bl B a [] 0] (iF (ab.told B a) (fun x v G => ∃ l d, v = .tuple #[] ∧ G = [ao b 223 [.pointer (some ⟨bl, 0, none⟩), .int .i64 sz, .int .i64 mo, .slice po no co, .bool s.ended, .int .i64 0, .int .i64 s.kind, .int .i64 (s.left : Int), .bool s.last, (.pointer (some ⟨l, 0, none⟩)), (.pointer (some ⟨d, 0, none⟩)), .int .i64 (s.aB : Int), .int .i64 (s.cE : Int)], LW bl B x.1 [] 0, HC l x.2.1, HC d x.2.2]) [MX b bl sz mo]) := by
 refine av [(0, _)] Tryz.func200 rfl Tryz.ntmps200 rfl rfl ?_
 intro w0 F
 have hn1 := aj.cH B a 5
 have hn2 := aj.cH B (a + 5) 5
 have hn3 := aj.cH B (a + 10) 4
 obtain ⟨he1, he2, he3, he4, he5, he6, he7, he8⟩ := ab.BI B a
 have hNN : ab.dE B a = ab.hL B a + ab.hD B a := ab.xa B a
 have hAA : ab.ew B a = a + 14 + 3 * ab.hC B a := ab.xi B a
 rcases (ab.NU B.length a) with hx | ⟨hx1, hx⟩ | ⟨hx1, hx⟩ | h14
 ·refine rT dr 1 rfl ?_
  refine wN [pz 0 [] [0], pz 1 [0] [], pz 3 [1] [], pz 7 [2] [], pz 15 [3] [], pz 31 [4] [], pz 0 [] [0], pz 64 [6] [], pz 192 [7] [], pz 448 [8] [], pz 991 [9] [], pz 2015 [10] [], pz 0 [] [0], pz 4096 [12] [], pz 12288 [13] [], pz 28672 [14] [], pz 63455 [15] [], pz 128991 [16] [], pz 129023 [5] [], pz 393215 [11] [], pz 1048575 [17] []] [⟨fun y => ao b 223 [.pointer (some ⟨bl, 0, none⟩), .int .i64 sz, .int .i64 mo, .slice po no co, .bool s.ended, .int .i64 0, .int .i64 s.kind, .int .i64 (s.left : Int), .bool s.last, li, di, .int .i64 (s.aB : Int), .int .i64 (s.cE : Int)], none, none, [3, 4, 9, 15]⟩, ⟨fun y => LW bl B a [] 0, none, none, [4]⟩] F V.mixed ?_
  refine nM ?_
  refine nN ?_
  refine nG V.eL ?_
  refine nR (fun y FF hA => ae V.dV rfl an rfl) ?_
  refine bM (undef) _ _ (fun y => rfl) rfl (fun y => rfl) (fun y FF hA => fZ (gA bl B a [] 0 5 hl hB (by omega) (by omega) (by omega)) V.fm rfl (.cons ay .nil) (by rintro _ _ ⟨rfl, rfl⟩; exact lA (ab.ud (by omega)) PE.end_ (aV (.cons ay .nil) (by exact xc (M := FF) (F := F)) (fun w0 h hh => cU hh)))) ?_
  refine bM (.bool true) _ _ (fun y => rfl) rfl (fun y => rfl) (fun y FF hA => (dO.fact (hA 4 (by decide)) (q := fun _ => False) rfl).elim) ?_
  refine nM ?_
  refine nN ?_
  refine nG V.eL ?_
  refine nR (fun y FF hA => ae V.dV rfl an rfl) ?_
  refine bM (.bool true) _ _ (fun y => rfl) rfl (fun y => rfl) (fun y FF hA => (dO.fact (hA 4 (by decide)) (q := fun _ => False) rfl).elim) ?_
  refine bM (.bool true) _ _ (fun y => rfl) rfl (fun y => rfl) (fun y FF hA => (dO.fact (hA 4 (by decide)) (q := fun _ => False) rfl).elim) ?_
  refine nM ?_
  refine nN ?_
  refine nG V.eL ?_
  refine nR (fun y FF hA => ae V.dV rfl an rfl) ?_
  refine bM (.bool true) _ _ (fun y => rfl) rfl (fun y => rfl) (fun y FF hA => (dO.fact (hA 4 (by decide)) (q := fun _ => False) rfl).elim) ?_
  refine bM (.bool true) _ _ (fun y => rfl) rfl (fun y => rfl) (fun y FF hA => (dO.fact (hA 4 (by decide)) (q := fun _ => False) rfl).elim) ?_
  refine bM (.bool true) _ _ (fun y => rfl) rfl (fun y => rfl) (fun y FF hA => (dO.fact (hA 4 (by decide)) (q := fun _ => False) rfl).elim) ?_
  refine bM (.bool true) _ _ (fun y => rfl) rfl (fun y => rfl) (fun y FF hA => (dO.fact (hA 4 (by decide)) (q := fun _ => False) rfl).elim) ?_
  refine bM (.bool true) _ _ (fun y => rfl) rfl (fun y => rfl) (fun y FF hA => (dO.fact (hA 4 (by decide)) (q := fun _ => False) rfl).elim) ?_
  refine aX ?_
  intro y hA
  exact (dO.fact (hA 4 (by exact Nat.le_of_ble_eq_true rfl)) (q := fun _ => False) rfl).elim
 ·refine rT dr 1 rfl ?_
  refine wN [pz 0 [] [0], pz 1 [0] [], pz 3 [1] [], pz 7 [2] [], pz 15 [3] [], pz 31 [4] [], pz 0 [] [0], pz 64 [6] [], pz 192 [7] [], pz 448 [8] [], pz 991 [9] [], pz 2015 [10] [], pz 0 [] [0], pz 4096 [12] [], pz 12288 [13] [], pz 28672 [14] [], pz 63455 [15] [], pz 128991 [16] [], pz 129023 [5] [], pz 393215 [11] [], pz 1048575 [17] []] [⟨fun y => ao b 223 [.pointer (some ⟨bl, 0, none⟩), .int .i64 sz, .int .i64 mo, .slice po no co, .bool s.ended, .int .i64 0, .int .i64 s.kind, .int .i64 (s.left : Int), .bool s.last, li, di, .int .i64 (s.aB : Int), .int .i64 (s.cE : Int)], none, none, [3, 9, 10, 15]⟩, ⟨fun y => LW bl B a [] 0, none, some 4, []⟩, ⟨fun y => LW bl B (a + 5) [] 0, some 4, none, [10]⟩] F V.mixed ?_
  refine nM ?_
  refine nN ?_
  refine nG V.eL ?_
  refine nR (fun y FF hA => ae V.dV rfl an rfl) ?_
  refine nE (fun y FF hA => bO (Post := [LW bl B (a + 5) [] 0]) (fP bl B a [] 0 5 hl hB (by omega) (by omega)) V.fm rfl (ar .nil) (fun v G h => by rcases h with ⟨rfl, rfl⟩; exact ⟨rfl, .refl _⟩)) ?_
  refine nV (fun y hA L => du rfl rfl wI) ?_
  refine nM ?_
  refine nN ?_
  refine nG V.eL ?_
  refine nR (fun y FF hA => ae V.dV rfl an rfl) ?_
  refine bM (undef) _ _ (fun y => rfl) rfl (fun y => rfl) (fun y FF hA => fZ (gA bl B (a + 5) [] 0 5 hl hB (by omega) (by omega) (by omega)) V.fm rfl (.cons ay .nil) (by rintro _ _ ⟨rfl, rfl⟩; exact lA (ab.ud (by omega)) PE.end_ (aV (.cons ay .nil) (by exact xc (M := FF) (F := F)) (fun w0 h hh => cU hh)))) ?_
  refine bM (.bool true) _ _ (fun y => rfl) rfl (fun y => rfl) (fun y FF hA => (dO.fact (hA 10 (by decide)) (q := fun _ => False) rfl).elim) ?_
  refine nM ?_
  refine nN ?_
  refine nG V.eL ?_
  refine nR (fun y FF hA => ae V.dV rfl an rfl) ?_
  refine bM (.bool true) _ _ (fun y => rfl) rfl (fun y => rfl) (fun y FF hA => (dO.fact (hA 10 (by decide)) (q := fun _ => False) rfl).elim) ?_
  refine bM (.bool true) _ _ (fun y => rfl) rfl (fun y => rfl) (fun y FF hA => (dO.fact (hA 10 (by decide)) (q := fun _ => False) rfl).elim) ?_
  refine bM (.bool true) _ _ (fun y => rfl) rfl (fun y => rfl) (fun y FF hA => (dO.fact (hA 10 (by decide)) (q := fun _ => False) rfl).elim) ?_
  refine bM (.bool true) _ _ (fun y => rfl) rfl (fun y => rfl) (fun y FF hA => (dO.fact (hA 10 (by decide)) (q := fun _ => False) rfl).elim) ?_
  refine bM (.bool true) _ _ (fun y => rfl) rfl (fun y => rfl) (fun y FF hA => (dO.fact (hA 10 (by decide)) (q := fun _ => False) rfl).elim) ?_
  refine aX ?_
  intro y hA
  exact (dO.fact (hA 10 (by exact Nat.le_of_ble_eq_true rfl)) (q := fun _ => False) rfl).elim
 ·refine rT dr 1 rfl ?_
  refine wN [pz 0 [] [0], pz 1 [0] [], pz 3 [1] [], pz 7 [2] [], pz 15 [3] [], pz 31 [4] [], pz 0 [] [0], pz 64 [6] [], pz 192 [7] [], pz 448 [8] [], pz 991 [9] [], pz 2015 [10] [], pz 0 [] [0], pz 4096 [12] [], pz 12288 [13] [], pz 28672 [14] [], pz 63455 [15] [], pz 128991 [16] [], pz 129023 [5] [], pz 393215 [11] [], pz 1048575 [17] []] [⟨fun y => ao b 223 [.pointer (some ⟨bl, 0, none⟩), .int .i64 sz, .int .i64 mo, .slice po no co, .bool s.ended, .int .i64 0, .int .i64 s.kind, .int .i64 (s.left : Int), .bool s.last, li, di, .int .i64 (s.aB : Int), .int .i64 (s.cE : Int)], none, none, [3, 9, 15, 16]⟩, ⟨fun y => LW bl B a [] 0, none, some 4, []⟩, ⟨fun y => LW bl B (a + 5) [] 0, some 4, some 10, []⟩, ⟨fun y => LW bl B (a + 10) [] 0, some 10, none, [16]⟩] F V.mixed ?_
  refine nM ?_
  refine nN ?_
  refine nG V.eL ?_
  refine nR (fun y FF hA => ae V.dV rfl an rfl) ?_
  refine nE (fun y FF hA => bO (Post := [LW bl B (a + 5) [] 0]) (fP bl B a [] 0 5 hl hB (by omega) (by omega)) V.fm rfl (ar .nil) (fun v G h => by rcases h with ⟨rfl, rfl⟩; exact ⟨rfl, .refl _⟩)) ?_
  refine nV (fun y hA L => du rfl rfl wI) ?_
  refine nM ?_
  refine nN ?_
  refine nG V.eL ?_
  refine nR (fun y FF hA => ae V.dV rfl an rfl) ?_
  refine nE (fun y FF hA => bO (Post := [LW bl B (a + 10) [] 0]) (fP bl B (a + 5) [] 0 5 hl hB (by omega) (by omega)) V.fm rfl (ar .nil) (fun v G h => by rcases h with ⟨rfl, rfl⟩; exact ⟨rfl, .refl _⟩)) ?_
  refine nV (fun y hA L => du rfl rfl wI) ?_
  refine nM ?_
  refine nN ?_
  refine nG V.eL ?_
  refine nR (fun y FF hA => ae V.dV rfl an rfl) ?_
  refine bM (undef) _ _ (fun y => rfl) rfl (fun y => rfl) (fun y FF hA => fZ (gA bl B (a + 10) [] 0 4 hl hB (by omega) (by omega) (by omega)) V.fm rfl (.cons ay .nil) (by rintro _ _ ⟨rfl, rfl⟩; exact lA (ab.ud (by omega)) PE.end_ (aV (.cons ay .nil) (by exact xc (M := FF) (F := F)) (fun w0 h hh => cU hh)))) ?_
  refine bM (.bool true) _ _ (fun y => rfl) rfl (fun y => rfl) (fun y FF hA => (dO.fact (hA 16 (by decide)) (q := fun _ => False) rfl).elim) ?_
  refine bM (.bool true) _ _ (fun y => rfl) rfl (fun y => rfl) (fun y FF hA => (dO.fact (hA 16 (by decide)) (q := fun _ => False) rfl).elim) ?_
  refine bM (.bool true) _ _ (fun y => rfl) rfl (fun y => rfl) (fun y FF hA => (dO.fact (hA 16 (by decide)) (q := fun _ => False) rfl).elim) ?_
  refine bM (.bool true) _ _ (fun y => rfl) rfl (fun y => rfl) (fun y FF hA => (dO.fact (hA 16 (by decide)) (q := fun _ => False) rfl).elim) ?_
  refine aX ?_
  intro y hA
  exact (dO.fact (hA 16 (by exact Nat.le_of_ble_eq_true rfl)) (q := fun _ => False) rfl).elim
 ·refine rT dr 1 rfl ?_
  refine wN [pz 0 [] [0], pz 1 [0] [], pz 3 [1] [], pz 7 [2] [], pz 15 [3] [], pz 31 [4] [], pz 0 [] [0], pz 64 [6] [], pz 192 [7] [], pz 448 [8] [], pz 991 [9] [], pz 2015 [10] [], pz 0 [] [0], pz 4096 [12] [], pz 12288 [13] [], pz 28672 [14] [], pz 63455 [15] [], pz 128991 [16] [], pz 129023 [5] [], pz 393215 [11] [], pz 1048575 [17] []] [⟨fun y => ao b 223 [.pointer (some ⟨bl, 0, none⟩), .int .i64 sz, .int .i64 mo, .slice po no co, .bool s.ended, .int .i64 0, .int .i64 s.kind, .int .i64 (s.left : Int), .bool s.last, li, di, .int .i64 (s.aB : Int), .int .i64 (s.cE : Int)], none, none, [3, 9, 15]⟩, ⟨fun y => LW bl B a [] 0, none, some 4, []⟩, ⟨fun y => LW bl B (a + 5) [] 0, some 4, some 10, []⟩, ⟨fun y => LW bl B (a + 10) [] 0, some 10, some 16, []⟩, ⟨fun y => LW bl B (a + 14) [] 0, some 16, none, []⟩] F V.mixed ?_
  refine nM ?_
  refine nN ?_
  refine nG V.eL ?_
  refine nR (fun y FF hA => ae V.dV rfl an rfl) ?_
  refine nE (fun y FF hA => bO (Post := [LW bl B (a + 5) [] 0]) (fP bl B a [] 0 5 hl hB (by omega) (by omega)) V.fm rfl (ar .nil) (fun v G h => by rcases h with ⟨rfl, rfl⟩; exact ⟨rfl, .refl _⟩)) ?_
  refine nV (fun y hA L => du rfl rfl wI) ?_
  refine nM ?_
  refine nN ?_
  refine nG V.eL ?_
  refine nR (fun y FF hA => ae V.dV rfl an rfl) ?_
  refine nE (fun y FF hA => bO (Post := [LW bl B (a + 10) [] 0]) (fP bl B (a + 5) [] 0 5 hl hB (by omega) (by omega)) V.fm rfl (ar .nil) (fun v G h => by rcases h with ⟨rfl, rfl⟩; exact ⟨rfl, .refl _⟩)) ?_
  refine nV (fun y hA L => du rfl rfl wI) ?_
  refine nM ?_
  refine nN ?_
  refine nG V.eL ?_
  refine nR (fun y FF hA => ae V.dV rfl an rfl) ?_
  refine nE (fun y FF hA => bO (Post := [LW bl B (a + 14) [] 0]) (fP bl B (a + 10) [] 0 4 hl hB (by omega) (by omega)) V.fm rfl (ar .nil) (fun v G h => by rcases h with ⟨rfl, rfl⟩; exact ⟨rfl, .refl _⟩)) ?_
  refine nV (fun y hA L => du rfl rfl wI) ?_
  iterate 3 refine nA ?_
  refine aX ?_
  intro y hA
  clear hA
  refine bN ?_
  refine cu _ (.cons (d := 0) rfl (.cons (d := 2) rfl (.cons (d := 3) rfl (.cons (d := 4) rfl (.nil _))))) ?_
  refine bS (M := ao b 223 [.pointer (some ⟨bl, 0, none⟩), .int .i64 sz, .int .i64 mo, .slice po no co, .bool s.ended, .int .i64 0, .int .i64 s.kind, .int .i64 (s.left : Int), .bool s.last, li, di, .int .i64 (s.aB : Int), .int .i64 (s.cE : Int)] :: LW bl B (a + 14) [] 0 :: F) (fun _ _ h => h) ?_
  rcases (ab.Jz (ab.hL B a ≤ 286) (ab.hD B a ≤ 30)) with ⟨hq1, hq2⟩ | ⟨hq1, hq2⟩ | hq1
  ·refine rC dr 1 rfl ?_
   rw [he1, he2, he3]
   refine rC dr 2 rfl ?_
   refine oV (aW (eH rfl rfl) (by omega)) ?_
   refine rO dr 2 rfl ?_
   refine ag rfl ?_
   refine oV (aW (eH rfl rfl) (by omega)) ?_
   refine oV (ow rfl rfl) ?_
   refine ai (kU 4) V.iO  rfl .nil rfl ?_
   rintro _ _ ⟨rfl, rfl⟩
   refine rO dr 4 rfl ?_
   refine ai (AO 0 19 (by omega)) V.AJ  rfl .nil rfl ?_
   rintro _ _ ⟨p37, c37, rfl, rfl⟩
   refine rO dr 6 rfl ?_
   refine ai (IE) V.Qw  rfl .nil rfl ?_
   rintro _ _ ⟨p38, rfl, rfl⟩
   refine oV (aK rfl) ?_
   refine oV (jQ (ab.hC B a) _ V.cT rfl ⟨_, rfl⟩ rfl (by omega) (by omega)) ?_
   refine rO dr 5 rfl ?_
   rw [← ab.Fv B (a + 14)]
   rw [show LW bl B (a + 14) [] 0 = LW bl B (a + 14 + 3 * 0) [] 0 from rfl]
   refine eb (fun (k : Nat) => [(0, .pointer (some ⟨b, 0, none⟩)), (2, .int .i64 (ab.hL B a : Int)), (3, .int .i64 (ab.hD B a : Int)), (5, .slice p37 19 c37), (40, .slice p38 (ab.hC B a) 19), (41, .int .i64 ((ab.hC B a) : Int)), (42, .int .i64 (k : Int))]) (fun (k : Nat) => Row I3 p37 19 c37 (ab.iK B (a + 14) k) :: Row I3 p38 19 19 ab.mF :: ao b 223 [.pointer (some ⟨bl, 0, none⟩), .int .i64 sz, .int .i64 mo, .slice po no co, .bool s.ended, .int .i64 0, .int .i64 s.kind, .int .i64 (s.left : Int), .bool s.last, li, di, .int .i64 (s.aB : Int), .int .i64 (s.cE : Int)] :: LW bl B (a + 14 + 3 * k) [] 0 :: F) (fun (k : Nat) => k ≤ ab.hC B a ∧ a + 14 + 3 * k ≤ 8 * B.length) (fun (k : Nat) => ab.hC B a - k) (i1 (0) ?_ (kG (dp ln)) (sub (.cons ay (gm .nil)) aw)) ?_
   ·exact ⟨Nat.zero_le _, by omega⟩
   intro k
   rintro ⟨hk, hk2⟩
   refine rL dr 6 rfl ?_
   refine aN rfl (fun h43 => ?_) (fun h43 => ?_)
   ·refine rC dr 5 rfl ?_
    have hoo : 0 ≤ I3.g ab.mF (k : Int) ∧ I3.g ab.mF (k : Int) < 19 := ab.HB (k := k) (by omega)
    refine bK ?_
    refine oV (zN (c := (I3)) V.cT rfl rfl (by exact (own bW).take _ (by omega)) (by omega) (by omega)) ?_
    refine oV (xL V.s3 (own bW)) ?_
    refine rO dr 3 rfl ?_
    rcases (Nat.lt_or_ge (8 * B.length) ((a + 14 + 3 * k) + 3)) with hx | hx
    ·refine rC dr 6 rfl ?_
     refine oV (ae V.dV rfl dJ rfl) ?_
     refine dK (gA bl B (a + 14 + 3 * k) [] 0 3 hl hB (by omega) (by omega) (by omega)) V.fm rfl (.cons dI .nil) ?_
     rintro _ _ ⟨rfl, rfl⟩
     refine (fC (dZ (dZ (fC (dZ ?_)))))
     exact eA (ab.Di h14 ⟨hq1, hq2⟩ (by omega)) PE.end_ (aV (.cons dI .nil) n8 (fun w0 h hh => cU hh))
    ·refine rC dr 6 rfl ?_
     refine oV (ae V.dV rfl dJ rfl) ?_
     refine ai (fP bl B (a + 14 + 3 * k) [] 0 3 hl hB (by omega) (by omega)) V.fm  rfl (.cons dI .nil) rfl ?_
     rintro _ _ ⟨rfl, rfl⟩
     refine oV (xI V.cT (own bW)) ?_
     refine aU (gu (c := (I3)) (_) V.s3 rfl rfl rfl (by exact mh) (by omega) (by omega) rfl rfl) ?_
     refine cQ dr 7 rfl (by omega) ?_
     rw [show (ab.iK B (a + 14) k).set (I3.g ab.mF (k : Int)).toNat (aj.aT B (a + 14 + 3 * k) 3) = ab.iK B (a + 14) (k + 1) from (ab.FW B (a + 14) k).symm]
     rw [show a + 14 + 3 * k + 3 = a + 14 + 3 * (k + 1) from by omega]
     refine j1 (k + 1) ?_ (kG (dp ln)) (sub (.cons ay (.cons ay (.cons ay (ar .nil)))) aw)
     exact ⟨⟨by omega, by omega⟩, by omega⟩
   ·refine rC dr 5 rfl ?_
    rcases (Classical.em (af.cg (ab.dg B a) = 0)) with hy | hy
    ·refine rC dr 1 rfl ?_
     have hkC : k = ab.hC B a := by omega
     rw [show ab.iK B (a + 14) k = ab.dg B a from by rw [hkC]; exact (ab.wU B a).symm, show a + 14 + 3 * k = ab.ew B a from by omega]
     have hta : ab.ew B a ≤ 8 * B.length := by omega
     refine rC dr 2 rfl ?_
     refine ai (mR p37 19 c37 (ab.dg B a) (Row I3 p37 19 c37 (ab.dg B a)) (ab.jc B a).symm (fun _ _ hh => tX (ab.jc B a).symm hh) hy) V.oU  rfl (ar .nil) rfl ?_
     rintro _ _ ⟨bc, rfl, rfl⟩
     refine rO dr 10 rfl ?_
     refine gp (Row I3 none 0 0 []) (Row.nil _ _ _) ?_
     refine zG (fun (l : List Int) (f : Nat) (x : Nat) (pr : Option Addr) (cr : Nat) => [(0, .pointer (some ⟨b, 0, none⟩)), (2, .int .i64 (ab.hL B a : Int)), (3, .int .i64 (ab.hD B a : Int)), (8, .pointer (some ⟨bc, 0, none⟩)), (9, .slice pr l.length cr)]) (fun (l : List Int) (f : Nat) (x : Nat) (pr : Option Addr) (cr : Nat) => Row I3 pr l.length cr l :: HC bc (ab.dg B a) :: ao b 223 [.pointer (some ⟨bl, 0, none⟩), .int .i64 sz, .int .i64 mo, .slice po no co, .bool s.ended, .int .i64 0, .int .i64 s.kind, .int .i64 (s.left : Int), .bool s.last, li, di, .int .i64 (s.aB : Int), .int .i64 (s.cE : Int)] :: LW bl B x [] 0 :: F) (fun (l : List Int) (f : Nat) (x : Nat) (pr : Option Addr) (cr : Nat) => ab.fF B (ab.dg B a) (ab.dE B a) (ab.dE B a) [] (ab.ew B a) = ab.fF B (ab.dg B a) (ab.dE B a) f l x ∧ (ab.dE B a) ≤ f + l.length ∧ l.length ≤ (ab.dE B a) ∧ x ≤ 8 * B.length) (fun (l : List Int) (f : Nat) (x : Nat) (pr : Option Addr) (cr : Nat) => (ab.dE B a) - l.length) (i5 ([]) ((ab.dE B a)) ((ab.ew B a)) (none) (0) ?_ (dp ln) (sub (bF (.cons bX (.cons bX .nil))) ie)) ?_
     ·exact ⟨rfl, Nat.le_add_right _ _, Nat.zero_le _, hta⟩
     intro l f x pr cr
     rintro ⟨hg, hf, hlt, hx⟩
     refine PH dr 11 rfl (by omega) ?_
     refine aN rfl (fun h62 => ?_) (fun h62 => ?_)
     ·refine rC dr 3 rfl ?_
      rcases (ab.Ag B (ab.dg B a) l x) with ⟨e, hs⟩ | ⟨sy, x2, e, hs, hr⟩ | ⟨sy, x2, xx, nn, x3, hs, hr⟩
      ·refine rC dr 7 rfl ?_
       refine oV (ae V.dV rfl dJ rfl) ?_
       refine dK ((oI bc (ab.dg B a) bl B x [] 0 hy hl hB hx).err hs) V.sG rfl (.cons ay (.cons bX .nil)) ?_
       rintro _ _ ⟨hp, rfl⟩
       refine (dZ (fC (dZ (fC (dZ ?_)))))
       exact eA (ab.sY h14 ⟨hq1, hq2⟩ hta hy (hg.trans (ab.pj (by omega) hf (ab.r5 hs)))) hp (aV (.cons ay .nil) cD (fun w0 h hh => cU hh))
      ·refine rC dr 1 rfl ?_
       have hsz := ab.qI hy (by rw [ab.jc]; omega) hs
       rw [ab.jc] at hsz
       have hsy : 0 ≤ sy ∧ sy ≤ 18 := by omega
       have hx2 : x2 ≤ 8 * B.length := by omega
       refine rC dr 6 rfl ?_
       refine oV (ae V.dV rfl dJ rfl) ?_
       refine ai ((oI bc (ab.dg B a) bl B x [] 0 hy hl hB hx).ok hs) V.sG  rfl (.cons ay (.cons bX .nil)) rfl ?_
       rintro _ _ ⟨rfl, rfl⟩
       refine oV (aK rfl) ?_
       refine dK ((Gn b bl sz mo po no co li di s B x2 sy pr cr l hsy hl hB hx2 (by omega)).err hr) V.Ly rfl (.cons dI (.cons ay (.cons ay .nil))) ?_
       rintro _ _ ⟨hp, rfl⟩
       refine (dZ (fC (dZ (fC (dZ ?_)))))
       exact eA (ab.sY h14 ⟨hq1, hq2⟩ hta hy (hg.trans (ab.pj (by omega) hf (ab.so hs hr)))) hp (sub (ar .nil) cD)
      ·refine rC dr 1 rfl ?_
       have hsz := ab.qI hy (by rw [ab.jc]; omega) hs
       rw [ab.jc] at hsz
       have hsy : 0 ≤ sy ∧ sy ≤ 18 := by omega
       have hx2 : x2 ≤ 8 * B.length := by omega
       have hrg := ab.wX hx2 hr
       refine rC dr 6 rfl ?_
       refine oV (ae V.dV rfl dJ rfl) ?_
       refine ai ((oI bc (ab.dg B a) bl B x [] 0 hy hl hB hx).ok hs) V.sG  rfl (.cons ay (.cons bX .nil)) rfl ?_
       rintro _ _ ⟨rfl, rfl⟩
       refine oV (aK rfl) ?_
       refine ai ((Gn b bl sz mo po no co li di s B x2 sy pr cr l hsy hl hB hx2 (by omega)).ok hr) V.Ly  rfl (.cons dI (.cons ay (.cons ay .nil))) rfl ?_
       rintro _ _ ⟨rfl, rfl⟩
       refine rO dr 12 rfl ?_
       refine ai (Co xx nn (by omega)) V.AJ  rfl .nil rfl ?_
       rintro _ _ ⟨p78, c78, rfl, rfl⟩
       refine dw (c := (I3)) V.cT V.z3 rfl rfl rfl rfl dI (own an) (by omega) rfl ?_
       intro p79 c79
       refine rO dr 3 rfl ?_
       rcases (Nat.lt_or_ge (ab.dE B a) (l.length + nn.toNat)) with hbg | hbg
       ·refine fH dr 6 rfl (by omega) ?_
        refine oV (aA (eH rfl rfl) (by omega)) ?_
        refine dK (iP 4) V.iO rfl .nil ?_
        rintro _ _ ⟨rfl, rfl⟩
        refine (fC (dZ (fC (dZ ?_))))
        exact eA (ab.sY h14 ⟨hq1, hq2⟩ hta hy (hg.trans (ab.xk (by omega) hf (ab.nf hs hr) (by rw [List.length_append, List.length_replicate]; omega)))) (PE.no (by decide)) (aV (.cons bX .nil) mI (fun w0 h hh => cU hh))
       ·refine fH dr 6 rfl (by omega) ?_
        refine oV (aW (eH rfl rfl) (by omega)) ?_
        refine ai (kU 4) V.iO  rfl .nil rfl ?_
        rintro _ _ ⟨rfl, rfl⟩
        refine rO dr 2 rfl ?_
        rw [show l.length + nn.toNat = (l ++ List.replicate nn.toNat xx).length from by rw [List.length_append, List.length_replicate]]
        have hll : (l ++ List.replicate nn.toNat xx).length = l.length + nn.toNat := by rw [List.length_append, List.length_replicate]
        refine j5 (l ++ List.replicate nn.toNat xx) (f - 1) (x3) (_) (_) ?_ (dp ln) (sub (ar (.cons dI (.cons ay (.cons ay .nil)))) cD)
        exact ⟨⟨hg.trans (ab.vu (by omega) hf (ab.nf hs hr) (by omega)), by omega, by omega, by omega⟩, by omega⟩
     ·refine rC dr 5 rfl ?_
      rcases (ab.Jz (af.cg (l.take (ab.hL B a)) = 0) (af.cg (l.drop (ab.hL B a)) = 0)) with ⟨hc1, hc2⟩ | ⟨hc1, hc2⟩ | hc1
      ·refine rC dr 1 rfl ?_
       have hlt : l.length = ab.dE B a := by omega
       have hz := hg.trans (ab.ng (B := B) (c := ab.dg B a) (f := f) (a := x) (show ab.dE B a ≤ l.length by omega))
       refine Ak (p := pr) (n := l.length) (cap := cr) (l := l) (c := I3) an fun hcap => ?_
       refine ly [pz 0 [] [0], pz 0 [] [0], pz 0 [] [9], pz 0 [] [2], pz 12 [2, 3] [], pz 28 [4] [], pz 0 [] [9], pz 0 [] [2], pz 192 [6, 7] [], pz 508 [8] [], pz 1021 [0] [], pz 2045 [10] [], pz 4093 [11, 5] [], pz 8191 [1] [], pz 16383 [13] [], pz 32767 [14, 9] []] [⟨fun y => Row I3 pr l.length cr l, none, some 5, []⟩, ⟨fun y => HC bc (ab.dg B a), none, none, []⟩, ⟨fun y => ao b 223 [.pointer (some ⟨bl, 0, none⟩), .int .i64 sz, .int .i64 mo, .slice po no co, .bool s.ended, .int .i64 0, .int .i64 s.kind, .int .i64 (s.left : Int), .bool s.last, li, di, .int .i64 (s.aB : Int), .int .i64 (s.cE : Int)], none, some 12, []⟩, ⟨fun y => LW bl B x [] 0, none, none, []⟩, ⟨fun y => HC (gC (y 5)) (l.take (ab.hL B a)), some 5, none, []⟩, ⟨fun y => Row I3 pr l.length cr l, some 5, some 9, []⟩, ⟨fun y => HC (gC (y 9)) (l.drop (ab.hL B a)), some 9, none, []⟩, ⟨fun y => Row I3 pr l.length cr l, some 9, none, []⟩, ⟨fun y => ao b 223 [.pointer (some ⟨bl, 0, none⟩), .int .i64 sz, .int .i64 mo, .slice po no co, .bool s.ended, .int .i64 0, .int .i64 s.kind, .int .i64 (s.left : Int), .bool s.last, .pointer (some ⟨gC (y 5), 0, none⟩), di, .int .i64 (s.aB : Int), .int .i64 (s.cE : Int)], some 12, some 15, []⟩, ⟨fun y => ao b 223 [.pointer (some ⟨bl, 0, none⟩), .int .i64 sz, .int .i64 mo, .slice po no co, .bool s.ended, .int .i64 0, .int .i64 s.kind, .int .i64 (s.left : Int), .bool s.last, .pointer (some ⟨gC (y 5), 0, none⟩), .pointer (some ⟨gC (y 9), 0, none⟩), .int .i64 (s.aB : Int), .int .i64 (s.cE : Int)], some 15, none, []⟩] F V.mixed (by kernel_rfl) rfl (fun _ => .refl _) (cn _ (cn _ (cn _ (cn _ (eB _ rfl (by intro y y2 h; simp only [h 5 (.inl rfl)]) (eB _ rfl (by intro y y2 h; rfl) (eB _ rfl (by intro y y2 h; simp only [h 9 (.inl rfl)]) (eB _ rfl (by intro y y2 h; rfl) (eB _ rfl (by intro y y2 h; simp only [h 5 (.inr (by decide))]) (eB _ rfl (by intro y y2 h; simp only [h 5 (.inr (by decide)), h 9 (.inr (by decide))]) ir)))))))))) ?_
       iterate 4 refine nM ?_
       refine nV (fun y hA L => jQ (ab.hL B a) _ V.cT rfl ⟨_, rfl⟩ rfl (by omega) (by omega)) ?_
       refine gU (fun y v => .pointer (some ⟨gC v, 0, none⟩)) (fun y v => True) _ _ (fun y v => [HC (gC v) (l.take (ab.hL B a)), Row I3 pr l.length cr l]) _ (fun y => rfl) (fun y => rfl) (fun y => rfl) (fun y => rfl) (fun y FF hA => sj (A := fun z => HC z (l.take (ab.hL B a))) (Post := [Row I3 pr l.length cr l]) (mR pr (ab.hL B a) cr (l.take (ab.hL B a)) (Row I3 pr l.length cr l) (by (rw [List.length_take]; omega)) (fun _ _ hh => rU rfl (by omega) hh) hc1) V.oU rfl (ar .nil)) (by intros; rfl) (by intros; rfl) (by intros; rfl) (by intro y y2 h; simp only [h 5 (.inl rfl)]) (by intro y y2 h; rfl) ?_
       iterate 2 refine nM ?_
       refine nV (fun y hA L => dX (ab.hL B a) _ _ V.cT rfl ⟨_, rfl⟩ ⟨rfl, rfl⟩ rfl (by omega) (by omega) (by omega)) ?_
       refine gU (fun y v => .pointer (some ⟨gC v, 0, none⟩)) (fun y v => True) _ _ (fun y v => [HC (gC v) (l.drop (ab.hL B a)), Row I3 pr l.length cr l]) _ (fun y => rfl) (fun y => rfl) (fun y => rfl) (fun y => rfl) (fun y FF hA => sj (A := fun z => HC z (l.drop (ab.hL B a))) (Post := [Row I3 pr l.length cr l]) (mR (eo pr (ab.hL B a) cr 1) (l.length - (ab.hL B a)) (cr - (ab.hL B a)) (l.drop (ab.hL B a)) (Row I3 pr l.length cr l) (by rw [List.length_drop]) (fun _ _ hh => xA rfl (by omega) hcap hh) hc2) V.oU rfl (ar .nil)) (by intros; rfl) (by intros; rfl) (by intros; rfl) (by intro y y2 h; simp only [h 9 (.inl rfl)]) (by intro y y2 h; rfl) ?_
       refine nN ?_
       refine nG V.xV ?_
       refine nE (fun y FF hA => dC (bZ V.pS rfl rfl rfl (by exact cY) (by exact Nat.le_of_ble_eq_true rfl) rfl) ⟨rfl, .refl _⟩) ?_
       refine nN ?_
       refine nG V.uw ?_
       refine nE (fun y FF hA => dC (bZ V.pS rfl rfl rfl (by exact cY) (by exact Nat.le_of_ble_eq_true rfl) rfl) ⟨rfl, .refl _⟩) ?_
       refine aX ?_
       intro y hA
       clear hA
       refine bN ?_
       refine cu _ (.cons (d := 9) rfl (.nil _)) ?_
       refine bS (M := HC bc (ab.dg B a) :: LW bl B x [] 0 :: HC (gC (y 5)) (l.take (ab.hL B a)) :: HC (gC (y 9)) (l.drop (ab.hL B a)) :: Row I3 pr l.length cr l :: ao b 223 [.pointer (some ⟨bl, 0, none⟩), .int .i64 sz, .int .i64 mo, .slice po no co, .bool s.ended, .int .i64 0, .int .i64 s.kind, .int .i64 (s.left : Int), .bool s.last, .pointer (some ⟨gC (y 5), 0, none⟩), .pointer (some ⟨gC (y 9), 0, none⟩), .int .i64 (s.aB : Int), .int .i64 (s.cE : Int)] :: F) (fun _ _ h => h) ?_
       generalize (gC (y 5)) = q92
       generalize (gC (y 9)) = q96
       rcases (Classical.em (l.getD 256 0 = 0)) with hend | hend
       ·have hnn := ab.yI hc1 256
        rw [ab.getD_take (show 256 < ab.hL B a by omega)] at hnn
        refine rC dr 2 rfl ?_
        refine oV (xI V.cT (own jF)) ?_
        refine oV (xL V.s3 (own jF)) ?_
        refine oV (aA (bd rfl rfl) (by rw [show I3.g l 256 = l.getD 256 0 from rfl]; omega)) ?_
        refine dK (iP 4) V.iO rfl .nil ?_
        rintro _ _ ⟨rfl, rfl⟩
        skip
        exact eA (ab.sX h14 ⟨hq1, hq2⟩ hta hy hz (.inr (.inr hend))) (PE.no (by decide)) (aV (.cons kb .nil) Hb (fun w0 h hh => cU hh))
       ·have hnn := ab.yI hc1 256
        rw [ab.getD_take (show 256 < ab.hL B a by omega)] at hnn
        refine rC dr 2 rfl ?_
        refine oV (xI V.cT (own jF)) ?_
        refine oV (xL V.s3 (own jF)) ?_
        refine oV (aW (bd rfl rfl) (by rw [show I3.g l 256 = l.getD 256 0 from rfl]; omega)) ?_
        refine ai (kU 4) V.iO  rfl .nil rfl ?_
        rintro _ _ ⟨rfl, rfl⟩
        refine cW ?_
        exact iw (ab.Bg h14 ⟨hq1, hq2⟩ hta hy hz hc1 hc2 hend) fI ⟨_, _, rfl, rfl⟩ (sub (.cons kb (.cons ay (.cons ay (.cons ay .nil)))) ie)
      ·refine rC dr 1 rfl ?_
       have hlt : l.length = ab.dE B a := by omega
       have hz := hg.trans (ab.ng (B := B) (c := ab.dg B a) (f := f) (a := x) (show ab.dE B a ≤ l.length by omega))
       refine Ak (p := pr) (n := l.length) (cap := cr) (l := l) (c := I3) an fun hcap => ?_
       refine ly [pz 0 [] [0], pz 0 [] [0], pz 0 [] [9], pz 0 [] [2], pz 12 [2, 3] [], pz 28 [4] [], pz 0 [] [9], pz 0 [] [2], pz 192 [6, 7] [], pz 508 [8] [], pz 1021 [0] [], pz 2045 [10] [], pz 4093 [11, 5] [], pz 8191 [1] [], pz 16383 [13] [], pz 32767 [14, 9] []] [⟨fun y => Row I3 pr l.length cr l, none, some 5, []⟩, ⟨fun y => HC bc (ab.dg B a), none, none, []⟩, ⟨fun y => ao b 223 [.pointer (some ⟨bl, 0, none⟩), .int .i64 sz, .int .i64 mo, .slice po no co, .bool s.ended, .int .i64 0, .int .i64 s.kind, .int .i64 (s.left : Int), .bool s.last, li, di, .int .i64 (s.aB : Int), .int .i64 (s.cE : Int)], none, none, [9]⟩, ⟨fun y => LW bl B x [] 0, none, none, []⟩, ⟨fun y => HC (gC (y 5)) (l.take (ab.hL B a)), some 5, none, []⟩, ⟨fun y => Row I3 pr l.length cr l, some 5, none, [9]⟩] F V.mixed (by kernel_rfl) rfl (fun _ => .refl _) (cn _ (cn _ (cn _ (cn _ (eB _ rfl (by intro y y2 h; simp only [h 5 (.inl rfl)]) (eB _ rfl (by intro y y2 h; rfl) ir)))))) ?_
       iterate 4 refine nM ?_
       refine nV (fun y hA L => jQ (ab.hL B a) _ V.cT rfl ⟨_, rfl⟩ rfl (by omega) (by omega)) ?_
       refine gU (fun y v => .pointer (some ⟨gC v, 0, none⟩)) (fun y v => True) _ _ (fun y v => [HC (gC v) (l.take (ab.hL B a)), Row I3 pr l.length cr l]) _ (fun y => rfl) (fun y => rfl) (fun y => rfl) (fun y => rfl) (fun y FF hA => sj (A := fun z => HC z (l.take (ab.hL B a))) (Post := [Row I3 pr l.length cr l]) (mR pr (ab.hL B a) cr (l.take (ab.hL B a)) (Row I3 pr l.length cr l) (by (rw [List.length_take]; omega)) (fun _ _ hh => rU rfl (by omega) hh) hc1) V.oU rfl (ar .nil)) (by intros; rfl) (by intros; rfl) (by intros; rfl) (by intro y y2 h; simp only [h 5 (.inl rfl)]) (by intro y y2 h; rfl) ?_
       iterate 2 refine nM ?_
       refine nV (fun y hA L => dX (ab.hL B a) _ _ V.cT rfl ⟨_, rfl⟩ ⟨rfl, rfl⟩ rfl (by omega) (by omega) (by omega)) ?_
       refine bM (undef) _ _ (fun y => rfl) rfl (fun y => rfl) (fun y FF hA => fZ (uN (eo pr (ab.hL B a) cr 1) (l.length - (ab.hL B a)) (cr - (ab.hL B a)) (l.drop (ab.hL B a)) (Row I3 pr l.length cr l) (by rw [List.length_drop]) (fun _ _ hh => xA rfl (by omega) hcap hh) hc2) V.oU rfl (.cons ay .nil) (by rintro _ _ ⟨hp, rfl⟩; exact lA (ab.sX h14 ⟨hq1, hq2⟩ hta hy hz (.inr (.inl hc2))) hp (aV (ar .nil) (by exact vn (M := FF) (F := F)) (fun w0 h hh => cU hh)))) ?_
       refine bM (.bool true) _ _ (fun y => rfl) rfl (fun y => rfl) (fun y FF hA => (dO.fact (hA 9 (by decide)) (q := fun _ => False) rfl).elim) ?_
       refine bM (.bool true) _ _ (fun y => rfl) rfl (fun y => rfl) (fun y FF hA => (dO.fact (hA 9 (by decide)) (q := fun _ => False) rfl).elim) ?_
       refine bM (.bool true) _ _ (fun y => rfl) rfl (fun y => rfl) (fun y FF hA => (dO.fact (hA 9 (by decide)) (q := fun _ => False) rfl).elim) ?_
       refine bM (.bool true) _ _ (fun y => rfl) rfl (fun y => rfl) (fun y FF hA => (dO.fact (hA 9 (by decide)) (q := fun _ => False) rfl).elim) ?_
       refine bM (.bool true) _ _ (fun y => rfl) rfl (fun y => rfl) (fun y FF hA => (dO.fact (hA 9 (by decide)) (q := fun _ => False) rfl).elim) ?_
       refine bM (.bool true) _ _ (fun y => rfl) rfl (fun y => rfl) (fun y FF hA => (dO.fact (hA 9 (by decide)) (q := fun _ => False) rfl).elim) ?_
       refine aX ?_
       intro y hA
       exact (dO.fact (hA 9 (by exact Nat.le_of_ble_eq_true rfl)) (q := fun _ => False) rfl).elim
      ·refine rC dr 1 rfl ?_
       have hlt : l.length = ab.dE B a := by omega
       have hz := hg.trans (ab.ng (B := B) (c := ab.dg B a) (f := f) (a := x) (show ab.dE B a ≤ l.length by omega))
       refine Ak (p := pr) (n := l.length) (cap := cr) (l := l) (c := I3) an fun hcap => ?_
       refine wN [pz 0 [] [0], pz 0 [] [0], pz 0 [] [9], pz 0 [] [2], pz 12 [2, 3] [], pz 28 [4] [], pz 0 [] [9], pz 0 [] [2], pz 192 [6, 7] [], pz 508 [8] [], pz 1021 [0] [], pz 2045 [10] [], pz 4093 [11, 5] [], pz 8191 [1] [], pz 16383 [13] [], pz 32767 [14, 9] []] [⟨fun y => Row I3 pr l.length cr l, none, none, [5]⟩, ⟨fun y => HC bc (ab.dg B a), none, none, []⟩, ⟨fun y => ao b 223 [.pointer (some ⟨bl, 0, none⟩), .int .i64 sz, .int .i64 mo, .slice po no co, .bool s.ended, .int .i64 0, .int .i64 s.kind, .int .i64 (s.left : Int), .bool s.last, li, di, .int .i64 (s.aB : Int), .int .i64 (s.cE : Int)], none, none, [5]⟩, ⟨fun y => LW bl B x [] 0, none, none, []⟩] F V.mixed ?_
       iterate 4 refine nM ?_
       refine nV (fun y hA L => jQ (ab.hL B a) _ V.cT rfl ⟨_, rfl⟩ rfl (by omega) (by omega)) ?_
       refine bM (undef) _ _ (fun y => rfl) rfl (fun y => rfl) (fun y FF hA => fZ (uN pr (ab.hL B a) cr (l.take (ab.hL B a)) (Row I3 pr l.length cr l) (by (rw [List.length_take]; omega)) (fun _ _ hh => rU rfl (by omega) hh) hc1) V.oU rfl (ar .nil) (by rintro _ _ ⟨hp, rfl⟩; exact lA (ab.sX h14 ⟨hq1, hq2⟩ hta hy hz (.inl hc1)) hp (aV (ar .nil) (by exact vn (M := FF) (F := F)) (fun w0 h hh => cU hh)))) ?_
       iterate 2 refine nM ?_
       refine nV (fun y hA L => dX (ab.hL B a) _ _ V.cT rfl ⟨_, rfl⟩ ⟨rfl, rfl⟩ rfl (by omega) (by omega) (by omega)) ?_
       refine bM (.bool true) _ _ (fun y => rfl) rfl (fun y => rfl) (fun y FF hA => (dO.fact (hA 5 (by decide)) (q := fun _ => False) rfl).elim) ?_
       refine bM (.bool true) _ _ (fun y => rfl) rfl (fun y => rfl) (fun y FF hA => (dO.fact (hA 5 (by decide)) (q := fun _ => False) rfl).elim) ?_
       refine bM (.bool true) _ _ (fun y => rfl) rfl (fun y => rfl) (fun y FF hA => (dO.fact (hA 5 (by decide)) (q := fun _ => False) rfl).elim) ?_
       refine bM (.bool true) _ _ (fun y => rfl) rfl (fun y => rfl) (fun y FF hA => (dO.fact (hA 5 (by decide)) (q := fun _ => False) rfl).elim) ?_
       refine bM (.bool true) _ _ (fun y => rfl) rfl (fun y => rfl) (fun y FF hA => (dO.fact (hA 5 (by decide)) (q := fun _ => False) rfl).elim) ?_
       refine bM (.bool true) _ _ (fun y => rfl) rfl (fun y => rfl) (fun y FF hA => (dO.fact (hA 5 (by decide)) (q := fun _ => False) rfl).elim) ?_
       refine bM (.bool true) _ _ (fun y => rfl) rfl (fun y => rfl) (fun y FF hA => (dO.fact (hA 5 (by decide)) (q := fun _ => False) rfl).elim) ?_
       refine aX ?_
       intro y hA
       exact (dO.fact (hA 5 (by exact Nat.le_of_ble_eq_true rfl)) (q := fun _ => False) rfl).elim
    ·refine rC dr 1 rfl ?_
     have hkC : k = ab.hC B a := by omega
     rw [show ab.iK B (a + 14) k = ab.dg B a from by rw [hkC]; exact (ab.wU B a).symm, show a + 14 + 3 * k = ab.ew B a from by omega]
     have hta : ab.ew B a ≤ 8 * B.length := by omega
     refine rC dr 2 rfl ?_
     refine dK (uN p37 19 c37 (ab.dg B a) (Row I3 p37 19 c37 (ab.dg B a)) (ab.jc B a).symm (fun _ _ hh => tX (ab.jc B a).symm hh) hy) V.oU rfl (ar .nil) ?_
     rintro _ _ ⟨hp, rfl⟩
     refine (dZ ?_)
     exact eA (ab.DB h14 ⟨hq1, hq2⟩ hta hy) hp (aV (.cons ay .nil) ie (fun w0 h hh => cU hh))
  ·refine rC dr 1 rfl ?_
   rw [he1, he2, he3]
   refine rC dr 2 rfl ?_
   refine oV (aW (eH rfl rfl) (by omega)) ?_
   refine rO dr 2 rfl ?_
   refine ag rfl ?_
   refine oV (aA (eH rfl rfl) (by omega)) ?_
   refine oV (ow rfl rfl) ?_
   refine dK (iP 4) V.iO rfl .nil ?_
   rintro _ _ ⟨rfl, rfl⟩
   refine (dZ ?_)
   exact eA (ab.xP h14 (by omega)) (PE.no (by decide)) (aV (ar .nil) cD (fun w0 h hh => cU hh))
  ·refine rC dr 1 rfl ?_
   rw [he1, he2, he3]
   refine rC dr 2 rfl ?_
   refine oV (aA (eH rfl rfl) (by omega)) ?_
   refine rO dr 4 rfl ?_
   refine dK (iP 4) V.iO rfl .nil ?_
   rintro _ _ ⟨rfl, rfl⟩
   refine (dZ ?_)
   exact eA (ab.xP h14 (by omega)) (PE.no (by decide)) (aV (ar .nil) cD (fun w0 h hh => cU hh))
end Go.Proofs.YtmaiakpjgomnpaaGreat
namespace Go.Sl
def CD (li di : Value) (s : ab.St) : ad := fun w0 h => s.kind ≤ 0 ∨ ∃ l d, li = .pointer (some ⟨l, 0, none⟩) ∧ di = .pointer (some ⟨d, 0, none⟩) ∧ dk w0 [HC l s.lits, HC d s.eO] h
structure Pv where
  li : Value
  di : Value
def MM (b bl : Nat) (sz mo : Int) (B : List Int) (s : ab.St) : ad := fun w0 h => ∃ i : Pv, True ∧ dk w0 [MS b bl sz mo i.li i.di s, LW bl B s.at_ [] 0, CD i.li i.di s] h
theorem vq {w0 : World} {Bs : List ad} {A : ad} {h : Hp} (hA : ∀ h, dk w0 Bs h → A w0 h) (hh : dk w0 Bs h) : dk w0 [A] h := ⟨h, fun _ => none, fun _ => .inr rfl, Hp.le_refl _, (fun _ _ e => by cases e), hA h hh, trivial⟩
theorem oP {w0 : World} {X : ad} {L L' : List ad} {h : Hp} (k : ∀ h, dk w0 L h → dk w0 L' h) (hh : dk w0 (X :: L) h) : dk w0 (X :: L') h := by
  obtain ⟨h1, h2, a, b, c, d, e⟩ := hh
  exact ⟨h1, h2, a, b, c, d, k h2 e⟩
theorem ny {b bl : Nat} {sz mo : Int} {B : List Int} {s : ab.St} {li di : Value} {w0 : World} {h : Hp} (hk : s.kind ≤ 0) (hh : dk w0 [MS b bl sz mo li di s, LW bl B s.at_ [] 0] h) : MM b bl sz mo B s w0 h :=
  ⟨⟨li, di⟩, trivial, oP (fun h hh => oP (fun h hh => vq (fun h _ => .inl hk) hh) hh) hh⟩
theorem mg {b bl l d : Nat} {sz mo : Int} {B : List Int} {s : ab.St} {w0 : World} {h : Hp} (hh : dk w0 [MS b bl sz mo (.pointer (some ⟨l, 0, none⟩)) (.pointer (some ⟨d, 0, none⟩)) s, LW bl B s.at_ [] 0, HC l s.lits, HC d s.eO] h) : MM b bl sz mo B s w0 h :=
  ⟨⟨_, _⟩, trivial, oP (fun h hh => oP (fun h hh => vq (fun h hh => .inr ⟨l, d, rfl, rfl, hh⟩) hh) hh) hh⟩
theorem fx {b bl : Nat} {sz mo : Int} {B : List Int} {s : ab.St} {li di : Value} {w0 : World} {h : Hp} (hh : dk w0 [MS b bl sz mo li di s, LW bl B s.at_ [] 0, CD li di s] h) : MM b bl sz mo B s w0 h := ⟨⟨li, di⟩, trivial, hh⟩
theorem zh {li di : Value} {s : ab.St} {w0 : World} {h : Hp} (hk : 0 < s.kind) (hh : CD li di s w0 h) : ∃ i : Nat × Nat, (li = .pointer (some ⟨i.1, 0, none⟩) ∧ di = .pointer (some ⟨i.2, 0, none⟩)) ∧ dk w0 [HC i.1 s.lits, HC i.2 s.eO] h := by
  rcases hh with hh | ⟨l, d, h1, h2, h3⟩
  · exact absurd hk (by omega)
  · exact ⟨(l, d), ⟨h1, h2⟩, h3⟩
theorem aG.fold {P : Program} {f : FuncId} {args : List Value} {A : ad} {Bs : List ad} {Post : Ending → List ad → Prop} (h : aG P f args [A] Post) (hA : ∀ w0 h, dk w0 Bs h → A w0 h) : aG P f args Bs Post := fun w0 F w hi => h w0 F w (hi.cls (hA w0))
end Go.Sl
namespace Go.Proofs.YtmaiakpjgomnpaaGreat
open Go.Sl 
theorem cX : dU Tryz.prog ⟨[], [(223, 0, 0), (223, 6, 6), (223, 7, 7), (223, 8, 8)]⟩ = true := by kernel_rfl
attribute [local irreducible] af.cg af.tk af.ord af.cM af.words af.dj ab.iK ab.dg ab.dE ab.ew ab.hL ab.hD ab.hC ab.fF ab.told ab.ga ab.ju ab.rep ab.fw ab.eI ab.sym ab.dN aj.aT ab.fa ab.dT
set_option maxHeartbeats 2000000 in
theorem xC (b bl : Nat) (sz mo : Int) (po : Option Addr) (no co : Nat) (li di : Value) (s : ab.St) (B : List Int) (a : Nat) (sy : Int) (h0 : 0 ≤ sy ∧ sy < 1000) (hl : B.length < 500000000) (hB : aj.au B) (ha : a ≤ 8 * B.length) : aG Tryz.prog 202 [.pointer (some ⟨b, 0, none⟩), .int .i64 sy] [ao b 223 [.pointer (some ⟨bl, 0, none⟩), .int .i64 sz, .int .i64 mo, .slice po no co, .bool s.ended, .int .i64 0, .int .i64 s.kind, .int .i64 (s.left : Int), .bool s.last, li, di, .int .i64 (s.aB : Int), .int .i64 (s.cE : Int)], LW bl B a [] 0] (iF (ab.fw B sy a) (fun x v G => v = .int .i64 x.1 ∧ G = [ao b 223 [.pointer (some ⟨bl, 0, none⟩), .int .i64 sz, .int .i64 mo, .slice po no co, .bool s.ended, .int .i64 0, .int .i64 s.kind, .int .i64 (s.left : Int), .bool s.last, li, di, .int .i64 (s.aB : Int), .int .i64 (s.cE : Int)], LW bl B x.2 [] 0]) [MX b bl sz mo]) := by
 refine av [(0, _), (1, _)] Tryz.func202 rfl Tryz.ntmps202 rfl rfl ?_
 intro w0 F
 refine rT cX 5 rfl ?_
 rcases (Classical.em (sy < 29)) with hq | hq
 ·refine rC cX 3 rfl ?_
  refine oV (aW (bu rfl rfl) hq) ?_
  refine ai (kU 4) V.iO  rfl .nil rfl ?_
  rintro _ _ ⟨rfl, rfl⟩
  refine rO cX 11 rfl ?_
  refine aN rfl (fun h9 => ?_) (fun h9 => ?_)
  ·refine fH cX 10 rfl (by omega) ?_
   exact kN (x := (3 + sy, a)) (ab.zQ h0.1 (by omega) ha) (aC rfl) ⟨rfl, rfl⟩ (sub (bF .nil) aw)
  ·refine rC cX 7 rfl ?_
   refine aN rfl (fun h14 => ?_) (fun h14 => ?_)
   ·refine rC cX 8 rfl ?_
    exact kN (x := (258, a)) (ab.zU (by omega) ha) (aC rfl) ⟨rfl, rfl⟩ (sub (bF .nil) aw)
   ·refine rC cX 6 rfl ?_
    refine oV (fY rfl rfl (by omega) (jL (by omega) (by omega) (by omega))) ?_
    refine cQ cX 4 rfl (by omega) ?_
    rcases (Nat.lt_or_ge (8 * B.length) (a + (ab.gK sy))) with hx | hx
    ·refine rC cX 1 rfl ?_
     obtain ⟨hk1, hk2, hk3⟩ := ab.xW (s := sy) (by omega) (by omega)
     have hsh := ab.mv (x := 4 + sy % 4) (n := ab.gK sy) (by omega) (by omega) (by omega) rfl
     have hnb := aj.cH B a (ab.gK sy)
     have hnc := aj.rz (show ab.gK sy ≤ 24 by omega)
     rw [hk1]
     refine wN [pz 0 [] [1], pz 1 [0] [], pz 3 [1] [], pz 0 [] [5], pz 15 [2, 3] [], pz 31 [4] [], pz 0 [] [0], pz 64 [6] [], pz 192 [7] [], pz 448 [8] [], pz 0 [] [5], pz 1984 [9, 10] [], pz 4095 [5, 11] [], pz 8191 [12] []] [⟨fun y => ao b 223 [.pointer (some ⟨bl, 0, none⟩), .int .i64 sz, .int .i64 mo, .slice po no co, .bool s.ended, .int .i64 0, .int .i64 s.kind, .int .i64 (s.left : Int), .bool s.last, li, di, .int .i64 (s.aB : Int), .int .i64 (s.cE : Int)], none, none, [9, 11]⟩, ⟨fun y => LW bl B a [] 0, none, none, [11]⟩] F V.mixed ?_
     refine nM ?_
     refine nV (fun y hA L => gV rfl rfl (by omega) (jy (by omega))) ?_
     refine nV (fun y hA L => du rfl rfl wI) ?_
     refine nM ?_
     refine nV (fun y hA L => gb (r := (4 + sy % 4) * 2 ^ ab.gK sy) rfl rfl (by omega) hsh.1) ?_
     refine nV (fun y hA L => du rfl rfl wI) ?_
     refine nM ?_
     refine nN ?_
     refine nG V.eL ?_
     refine nR (fun y FF hA => ae V.dV rfl an rfl) ?_
     refine nM ?_
     refine bM (undef) _ _ (fun y => rfl) rfl (fun y => rfl) (fun y FF hA => fZ (gA bl B a [] 0 (ab.gK sy) hl hB (by omega) (by omega) (by omega)) V.fm rfl (.cons ay .nil) (by rintro _ _ ⟨rfl, rfl⟩; exact lA (ab.vz (by omega) (by omega) hx) PE.end_ (aV (.cons ay .nil) (by exact xc (M := FF) (F := F)) (fun w0 h hh => cU hh)))) ?_
     refine bM (.bool true) _ _ (fun y => rfl) rfl (fun y => rfl) (fun y FF hA => (dO.fact (hA 11 (by decide)) (q := fun _ => False) rfl).elim) ?_
     refine bM (.bool true) _ _ (fun y => rfl) rfl (fun y => rfl) (fun y FF hA => (dO.fact (hA 11 (by decide)) (q := fun _ => False) rfl).elim) ?_
     refine aX ?_
     intro y hA
     exact (dO.fact (hA 11 (by exact Nat.le_of_ble_eq_true rfl)) (q := fun _ => False) rfl).elim
    ·refine rC cX 1 rfl ?_
     obtain ⟨hk1, hk2, hk3⟩ := ab.xW (s := sy) (by omega) (by omega)
     have hsh := ab.mv (x := 4 + sy % 4) (n := ab.gK sy) (by omega) (by omega) (by omega) rfl
     have hnb := aj.cH B a (ab.gK sy)
     have hnc := aj.rz (show ab.gK sy ≤ 24 by omega)
     rw [hk1]
     refine wN [pz 0 [] [1], pz 1 [0] [], pz 3 [1] [], pz 0 [] [5], pz 15 [2, 3] [], pz 31 [4] [], pz 0 [] [0], pz 64 [6] [], pz 192 [7] [], pz 448 [8] [], pz 0 [] [5], pz 1984 [9, 10] [], pz 4095 [5, 11] [], pz 8191 [12] []] [⟨fun y => ao b 223 [.pointer (some ⟨bl, 0, none⟩), .int .i64 sz, .int .i64 mo, .slice po no co, .bool s.ended, .int .i64 0, .int .i64 s.kind, .int .i64 (s.left : Int), .bool s.last, li, di, .int .i64 (s.aB : Int), .int .i64 (s.cE : Int)], none, none, [9]⟩, ⟨fun y => LW bl B a [] 0, none, some 11, []⟩, ⟨fun y => LW bl B (a + (ab.gK sy)) [] 0, some 11, none, []⟩] F V.mixed ?_
     refine nM ?_
     refine nV (fun y hA L => gV rfl rfl (by omega) (jy (by omega))) ?_
     refine nV (fun y hA L => du rfl rfl wI) ?_
     refine nM ?_
     refine nV (fun y hA L => gb (r := (4 + sy % 4) * 2 ^ ab.gK sy) rfl rfl (by omega) hsh.1) ?_
     refine nV (fun y hA L => du rfl rfl wI) ?_
     refine nM ?_
     refine nN ?_
     refine nG V.eL ?_
     refine nR (fun y FF hA => ae V.dV rfl an rfl) ?_
     refine nM ?_
     refine nE (fun y FF hA => bO (Post := [LW bl B (a + (ab.gK sy)) [] 0]) (fP bl B a [] 0 (ab.gK sy) hl hB (by omega) (by omega)) V.fm rfl (ar .nil) (fun v G h => by rcases h with ⟨rfl, rfl⟩; exact ⟨rfl, .refl _⟩)) ?_
     refine nV (fun y hA L => du rfl rfl wI) ?_
     refine nA ?_
     refine aX ?_
     intro y hA
     clear hA
     refine bN ?_
     refine cu _ (.cons (d := 4) rfl (.nil _)) ?_
     refine bS (M := ao b 223 [.pointer (some ⟨bl, 0, none⟩), .int .i64 sz, .int .i64 mo, .slice po no co, .bool s.ended, .int .i64 0, .int .i64 s.kind, .int .i64 (s.left : Int), .bool s.last, li, di, .int .i64 (s.aB : Int), .int .i64 (s.cE : Int)] :: LW bl B (a + (ab.gK sy)) [] 0 :: F) (fun _ _ h => h) ?_
     refine rC cX 1 rfl ?_
     exact kN (x := (3 + (4 + sy % 4) * 2 ^ ab.gK sy + aj.aT B a (ab.gK sy), a + ab.gK sy)) (ab.DL (by omega) (by omega) hx) (aC rfl) ⟨rfl, rfl⟩ (sub (bF .nil) aw)
 ·refine rC cX 3 rfl ?_
  refine oV (aA (bu rfl rfl) hq) ?_
  refine dK (iP 4) V.iO rfl .nil ?_
  rintro _ _ ⟨rfl, rfl⟩
  refine (dZ ?_)
  exact eA (ab.Cb (by omega)) (PE.no (by decide)) (aV (ar .nil) cD (fun w0 h hh => cU hh))
set_option maxHeartbeats 2000000 in
theorem Dy (b bl : Nat) (sz mo : Int) (po : Option Addr) (no co : Nat) (li : Value) (dd : Nat) (s : ab.St) (B ds : List Int) (a : Nat) (hE : af.cg ds = 0) (hd : 0 < ds.length) (hl : B.length < 500000000) (hB : aj.au B) (ha : a ≤ 8 * B.length) : aG Tryz.prog 203 [.pointer (some ⟨b, 0, none⟩)] [ao b 223 [.pointer (some ⟨bl, 0, none⟩), .int .i64 sz, .int .i64 mo, .slice po no co, .bool s.ended, .int .i64 0, .int .i64 s.kind, .int .i64 (s.left : Int), .bool s.last, li, (.pointer (some ⟨dd, 0, none⟩)), .int .i64 (s.aB : Int), .int .i64 (s.cE : Int)], HC dd ds, LW bl B a [] 0] (iF (ab.eI B ds a) (fun x v G => v = .int .i64 x.1 ∧ G = [ao b 223 [.pointer (some ⟨bl, 0, none⟩), .int .i64 sz, .int .i64 mo, .slice po no co, .bool s.ended, .int .i64 0, .int .i64 s.kind, .int .i64 (s.left : Int), .bool s.last, li, (.pointer (some ⟨dd, 0, none⟩)), .int .i64 (s.aB : Int), .int .i64 (s.cE : Int)], HC dd ds, LW bl B x.2 [] 0]) [MX b bl sz mo]) := by
 refine av [(0, _)] Tryz.func203 rfl Tryz.ntmps203 rfl rfl ?_
 intro w0 F
 have hdl := ab.yr hE
 refine rT cX 5 rfl ?_
 rcases (ab.xH (B := B) (ls := ds) (a := a) hE hd) with ⟨e, hs⟩ | ⟨sy, a3, hs, h0, h1, h2, h3⟩
 ·refine rC cX 1 rfl ?_
  refine wN [pz 0 [] [0], pz 1 [0] [], pz 3 [1] [], pz 7 [2] [], pz 0 [] [0], pz 16 [4] [], pz 48 [5] [], pz 112 [6] [], pz 255 [3, 7] [], pz 511 [8] []] [⟨fun y => ao b 223 [.pointer (some ⟨bl, 0, none⟩), .int .i64 sz, .int .i64 mo, .slice po no co, .bool s.ended, .int .i64 0, .int .i64 s.kind, .int .i64 (s.left : Int), .bool s.last, li, (.pointer (some ⟨dd, 0, none⟩)), .int .i64 (s.aB : Int), .int .i64 (s.cE : Int)], none, none, [3, 7, 8]⟩, ⟨fun y => HC dd ds, none, none, [8]⟩, ⟨fun y => LW bl B a [] 0, none, none, [8]⟩] F V.mixed ?_
  refine nM ?_
  refine nN ?_
  refine nG V.uw ?_
  refine nR (fun y FF hA => ae V.pS rfl an rfl) ?_
  refine nM ?_
  refine nN ?_
  refine nG V.eL ?_
  refine nR (fun y FF hA => ae V.dV rfl an rfl) ?_
  refine bM (undef) _ _ (fun y => rfl) rfl (fun y => rfl) (fun y FF hA => fZ ((oI dd ds bl B a [] 0 hE hl hB ha).err hs) V.sG rfl (.cons ay (.cons ay .nil)) (by rintro _ _ ⟨hp, rfl⟩; exact lA (ab.CR hs) hp (aV (ar .nil) (by exact vn (M := FF) (F := F)) (fun w0 h hh => cU hh)))) ?_
  refine bM (.bool true) _ _ (fun y => rfl) rfl (fun y => rfl) (fun y FF hA => (dO.fact (hA 8 (by decide)) (q := fun _ => False) rfl).elim) ?_
  refine aX ?_
  intro y hA
  exact (dO.fact (hA 8 (by exact Nat.le_of_ble_eq_true rfl)) (q := fun _ => False) rfl).elim
 ·refine rC cX 1 rfl ?_
  refine wN [pz 0 [] [0], pz 1 [0] [], pz 3 [1] [], pz 7 [2] [], pz 0 [] [0], pz 16 [4] [], pz 48 [5] [], pz 112 [6] [], pz 255 [3, 7] [], pz 511 [8] []] [⟨fun y => ao b 223 [.pointer (some ⟨bl, 0, none⟩), .int .i64 sz, .int .i64 mo, .slice po no co, .bool s.ended, .int .i64 0, .int .i64 s.kind, .int .i64 (s.left : Int), .bool s.last, li, (.pointer (some ⟨dd, 0, none⟩)), .int .i64 (s.aB : Int), .int .i64 (s.cE : Int)], none, none, [3, 7]⟩, ⟨fun y => HC dd ds, none, some 8, []⟩, ⟨fun y => LW bl B a [] 0, none, some 8, []⟩, ⟨fun y => HC dd ds, some 8, none, []⟩, ⟨fun y => LW bl B a3 [] 0, some 8, none, []⟩] F V.mixed ?_
  refine nM ?_
  refine nN ?_
  refine nG V.uw ?_
  refine nR (fun y FF hA => ae V.pS rfl an rfl) ?_
  refine nM ?_
  refine nN ?_
  refine nG V.eL ?_
  refine nR (fun y FF hA => ae V.dV rfl an rfl) ?_
  refine nE (fun y FF hA => bO (Post := [HC dd ds, LW bl B a3 [] 0]) ((oI dd ds bl B a [] 0 hE hl hB ha).ok hs) V.sG rfl (bF .nil) (fun v G h => by rcases h with ⟨rfl, rfl⟩; exact ⟨rfl, .refl _⟩)) ?_
  refine nA ?_
  refine aX ?_
  intro y hA
  clear hA
  refine bN ?_
  refine cu _ (.cons (d := 0) rfl (.cons (d := 3) rfl (.nil _))) ?_
  refine bS (M := ao b 223 [.pointer (some ⟨bl, 0, none⟩), .int .i64 sz, .int .i64 mo, .slice po no co, .bool s.ended, .int .i64 0, .int .i64 s.kind, .int .i64 (s.left : Int), .bool s.last, li, (.pointer (some ⟨dd, 0, none⟩)), .int .i64 (s.aB : Int), .int .i64 (s.cE : Int)] :: HC dd ds :: LW bl B a3 [] 0 :: F) (fun _ _ h => h) ?_
  rcases (Classical.em (sy < 30)) with hq | hq
  ·refine rC cX 3 rfl ?_
   refine oV (aW (bu rfl rfl) hq) ?_
   refine ai (kU 4) V.iO  rfl .nil rfl ?_
   rintro _ _ ⟨rfl, rfl⟩
   refine rO cX 9 rfl ?_
   refine aN rfl (fun h18 => ?_) (fun h18 => ?_)
   ·refine fH cX 9 rfl (by omega) ?_
    exact kN (x := (1 + sy, a3)) (ab.xy hs h0 (by omega) h3) (aC rfl) ⟨rfl, rfl⟩ (sub (gm .nil) aw)
   ·refine rC cX 5 rfl ?_
    refine oV (fY rfl rfl (by omega) (jL (by omega) (by omega) (by omega))) ?_
    refine cQ cX 4 rfl (by omega) ?_
    rcases (Nat.lt_or_ge (8 * B.length) (a3 + (ab.gT sy))) with hx | hx
    ·refine rC cX 1 rfl ?_
     obtain ⟨hk1, hk2, hk3⟩ := ab.ym (s := sy) (by omega) (by omega)
     have hsh := ab.mv (x := 2 + sy % 2) (n := ab.gT sy) (by omega) (by omega) (by omega) rfl
     have hnb := aj.cH B a3 (ab.gT sy)
     have hnc := aj.rz (show ab.gT sy ≤ 24 by omega)
     rw [hk1]
     refine wN [pz 0 [] [3], pz 1 [0] [], pz 3 [1] [], pz 0 [] [4], pz 15 [2, 3] [], pz 31 [4] [], pz 0 [] [0], pz 64 [6] [], pz 192 [7] [], pz 448 [8] [], pz 0 [] [4], pz 1984 [9, 10] [], pz 4095 [5, 11] [], pz 8191 [12] []] [⟨fun y => ao b 223 [.pointer (some ⟨bl, 0, none⟩), .int .i64 sz, .int .i64 mo, .slice po no co, .bool s.ended, .int .i64 0, .int .i64 s.kind, .int .i64 (s.left : Int), .bool s.last, li, (.pointer (some ⟨dd, 0, none⟩)), .int .i64 (s.aB : Int), .int .i64 (s.cE : Int)], none, none, [9, 11]⟩, ⟨fun y => HC dd ds, none, none, []⟩, ⟨fun y => LW bl B a3 [] 0, none, none, [11]⟩] F V.mixed ?_
     refine nM ?_
     refine nV (fun y hA L => gV rfl rfl (by omega) (jy (by omega))) ?_
     refine nV (fun y hA L => du rfl rfl wI) ?_
     refine nM ?_
     refine nV (fun y hA L => gb (r := (2 + sy % 2) * 2 ^ ab.gT sy) rfl rfl (by omega) hsh.1) ?_
     refine nV (fun y hA L => du rfl rfl wI) ?_
     refine nM ?_
     refine nN ?_
     refine nG V.eL ?_
     refine nR (fun y FF hA => ae V.dV rfl an rfl) ?_
     refine nM ?_
     refine bM (undef) _ _ (fun y => rfl) rfl (fun y => rfl) (fun y FF hA => fZ (gA bl B a3 [] 0 (ab.gT sy) hl hB (by omega) (by omega) (by omega)) V.fm rfl (.cons ay .nil) (by rintro _ _ ⟨rfl, rfl⟩; exact lA (ab.tZ hs (by omega) (by omega) hx) PE.end_ (aV (.cons ay .nil) (by exact xc (M := FF) (F := F)) (fun w0 h hh => cU hh)))) ?_
     refine bM (.bool true) _ _ (fun y => rfl) rfl (fun y => rfl) (fun y FF hA => (dO.fact (hA 11 (by decide)) (q := fun _ => False) rfl).elim) ?_
     refine bM (.bool true) _ _ (fun y => rfl) rfl (fun y => rfl) (fun y FF hA => (dO.fact (hA 11 (by decide)) (q := fun _ => False) rfl).elim) ?_
     refine aX ?_
     intro y hA
     exact (dO.fact (hA 11 (by exact Nat.le_of_ble_eq_true rfl)) (q := fun _ => False) rfl).elim
    ·refine rC cX 1 rfl ?_
     obtain ⟨hk1, hk2, hk3⟩ := ab.ym (s := sy) (by omega) (by omega)
     have hsh := ab.mv (x := 2 + sy % 2) (n := ab.gT sy) (by omega) (by omega) (by omega) rfl
     have hnb := aj.cH B a3 (ab.gT sy)
     have hnc := aj.rz (show ab.gT sy ≤ 24 by omega)
     rw [hk1]
     refine wN [pz 0 [] [3], pz 1 [0] [], pz 3 [1] [], pz 0 [] [4], pz 15 [2, 3] [], pz 31 [4] [], pz 0 [] [0], pz 64 [6] [], pz 192 [7] [], pz 448 [8] [], pz 0 [] [4], pz 1984 [9, 10] [], pz 4095 [5, 11] [], pz 8191 [12] []] [⟨fun y => ao b 223 [.pointer (some ⟨bl, 0, none⟩), .int .i64 sz, .int .i64 mo, .slice po no co, .bool s.ended, .int .i64 0, .int .i64 s.kind, .int .i64 (s.left : Int), .bool s.last, li, (.pointer (some ⟨dd, 0, none⟩)), .int .i64 (s.aB : Int), .int .i64 (s.cE : Int)], none, none, [9]⟩, ⟨fun y => HC dd ds, none, none, []⟩, ⟨fun y => LW bl B a3 [] 0, none, some 11, []⟩, ⟨fun y => LW bl B (a3 + (ab.gT sy)) [] 0, some 11, none, []⟩] F V.mixed ?_
     refine nM ?_
     refine nV (fun y hA L => gV rfl rfl (by omega) (jy (by omega))) ?_
     refine nV (fun y hA L => du rfl rfl wI) ?_
     refine nM ?_
     refine nV (fun y hA L => gb (r := (2 + sy % 2) * 2 ^ ab.gT sy) rfl rfl (by omega) hsh.1) ?_
     refine nV (fun y hA L => du rfl rfl wI) ?_
     refine nM ?_
     refine nN ?_
     refine nG V.eL ?_
     refine nR (fun y FF hA => ae V.dV rfl an rfl) ?_
     refine nM ?_
     refine nE (fun y FF hA => bO (Post := [LW bl B (a3 + (ab.gT sy)) [] 0]) (fP bl B a3 [] 0 (ab.gT sy) hl hB (by omega) (by omega)) V.fm rfl (ar .nil) (fun v G h => by rcases h with ⟨rfl, rfl⟩; exact ⟨rfl, .refl _⟩)) ?_
     refine nV (fun y hA L => du rfl rfl wI) ?_
     refine nA ?_
     refine aX ?_
     intro y hA
     clear hA
     refine bN ?_
     refine cu _ (.cons (d := 2) rfl (.nil _)) ?_
     refine bS (M := ao b 223 [.pointer (some ⟨bl, 0, none⟩), .int .i64 sz, .int .i64 mo, .slice po no co, .bool s.ended, .int .i64 0, .int .i64 s.kind, .int .i64 (s.left : Int), .bool s.last, li, (.pointer (some ⟨dd, 0, none⟩)), .int .i64 (s.aB : Int), .int .i64 (s.cE : Int)] :: HC dd ds :: LW bl B (a3 + (ab.gT sy)) [] 0 :: F) (fun _ _ h => h) ?_
     refine rC cX 1 rfl ?_
     exact kN (x := (1 + (2 + sy % 2) * 2 ^ ab.gT sy + aj.aT B a3 (ab.gT sy), a3 + ab.gT sy)) (ab.zo hs (by omega) (by omega) hx) (aC rfl) ⟨rfl, rfl⟩ (sub (gm .nil) aw)
  ·refine rC cX 3 rfl ?_
   refine oV (aA (bu rfl rfl) hq) ?_
   refine dK (iP 4) V.iO rfl .nil ?_
   rintro _ _ ⟨rfl, rfl⟩
   refine (dZ ?_)
   exact eA (ab.yS hs (by omega)) (PE.no (by decide)) (aV (ar .nil) ie (fun w0 h hh => cU hh))
set_option maxHeartbeats 4000000 in
theorem zY (b bl : Nat) (sz mo : Int) (li di : Value) (s : ab.St) (B : List Int) (hl : B.length < 500000000) (hB : aj.au B) (ha : s.at_ ≤ 8 * B.length) : aG Tryz.prog 180 [.pointer (some ⟨b, 0, none⟩)] [MS b bl sz mo li di s, LW bl B s.at_ [] 0] (iF (ab.dT B s) (fun s2 v G => v = .tuple #[] ∧ G = [MM b bl sz mo B s2]) [MX b bl sz mo]) := by
 refine av [(0, _)] Tryz.func180 rfl Tryz.ntmps180 rfl rfl ?_
 intro w0 F
 refine gD (fun h hh => hh) ?_
 rintro ⟨po, co⟩ _
 dsimp only
 have hn1 := aj.cH B (ab.dN (s.at_ + 3)) 16
 have hn2 := aj.cH B ((ab.dN (s.at_ + 3)) + 16) 16
 have hal : ab.dN (s.at_ + 3) = (s.at_ + 3 + 7) / 8 * 8 := ab.yn _
 rcases (Nat.lt_or_ge (8 * B.length) (s.at_ + 1)) with hx0 | hx0
 ·refine rT cX 6 rfl ?_
  refine oV (ae V.dV rfl an rfl) ?_
  refine dK (gA bl B s.at_ [] 0 1 hl hB (by omega) (by omega) (by omega)) V.fm rfl (.cons bX .nil) ?_
  rintro _ _ ⟨rfl, rfl⟩
  refine (dZ ?_)
  exact eA (ab.Ba (by omega)) PE.end_ (aV (.cons ay .nil) ie (fun w0 h hh => cU hh))
 ·refine rT cX 6 rfl ?_
  refine oV (ae V.dV rfl an rfl) ?_
  refine ai (fP bl B s.at_ [] 0 1 hl hB (by omega) (by omega)) V.fm  rfl (.cons bX .nil) rfl ?_
  rintro _ _ ⟨rfl, rfl⟩
  refine rO cX 3 rfl ?_
  refine aU (bZ V.s4 rfl rfl rfl (by exact mh) (by exact Nat.le_of_ble_eq_true rfl) rfl) ?_
  refine rO cX 2 rfl ?_
  rcases (Nat.lt_or_ge (8 * B.length) (s.at_ + 3)) with hx1 | hx1
  ·refine rC cX 6 rfl ?_
   refine oV (ae V.dV rfl bW rfl) ?_
   refine dK (gA bl B (s.at_ + 1) [] 0 2 hl hB (by omega) (by omega) (by omega)) V.fm rfl (ar .nil) ?_
   rintro _ _ ⟨rfl, rfl⟩
   refine (dZ ?_)
   exact eA (ab.Ba (by omega)) PE.end_ (aV (.cons ay .nil) ie (fun w0 h hh => cU hh))
  ·refine rC cX 6 rfl ?_
   refine oV (ae V.dV rfl bW rfl) ?_
   refine ai (fP bl B (s.at_ + 1) [] 0 2 hl hB (by omega) (by omega)) V.fm  rfl (ar .nil) rfl ?_
   rintro _ _ ⟨rfl, rfl⟩
   refine rO cX 2 rfl ?_
   refine aU (bZ V.s3 rfl rfl rfl (by exact mh) (by exact Nat.le_of_ble_eq_true rfl) rfl) ?_
   refine rO cX 7 rfl ?_
   refine oV (ae V.s3 rfl bW rfl) ?_
   refine rO cX 9 rfl ?_
   refine aN rfl (fun h26 => ?_) (fun h26 => ?_)
   ·refine rC cX 5 rfl ?_
    refine oV (ae V.dV rfl bW rfl) ?_
    refine ai (Hm bl B (s.at_ + 3) [] 0 hl (by omega)) V.Qe  rfl (ar .nil) rfl ?_
    rintro _ _ ⟨rfl, rfl⟩
    refine rO cX 2 rfl ?_
    rcases (ab.OB B.length (ab.dN (s.at_ + 3))) with hx | ⟨hx2, hx⟩ | hx
    ·refine rC cX 1 rfl ?_
     have hk0 : (aj.aT B (s.at_ + 1) 2) = 0 := by omega
     refine wN [pz 0 [] [0], pz 1 [0] [], pz 3 [1] [], pz 7 [2] [], pz 15 [3] [], pz 0 [] [0], pz 32 [5] [], pz 96 [6] [], pz 224 [7] [], pz 511 [8] [], pz 1023 [4] [], pz 2047 [9] []] [⟨fun y => LW bl B (ab.dN (s.at_ + 3)) [] 0, none, none, [4]⟩, ⟨fun y => ao b 223 [.pointer (some ⟨bl, 0, none⟩), .int .i64 sz, .int .i64 mo, .slice po s.out.length co, .bool s.ended, .int .i64 0, .int .i64 (aj.aT B (s.at_ + 1) 2), .int .i64 (s.left : Int), .bool (decide (aj.aT B s.at_ 1 = 1)), li, di, .int .i64 (s.aB : Int), .int .i64 (s.cE : Int)], none, none, [3, 4, 8]⟩, ⟨fun y => Row U5 po s.out.length co s.out, none, none, []⟩] F V.mixed ?_
     refine nM ?_
     refine nN ?_
     refine nG V.eL ?_
     refine nR (fun y FF hA => ae V.dV rfl an rfl) ?_
     refine bM (undef) _ _ (fun y => rfl) rfl (fun y => rfl) (fun y FF hA => fZ (gA bl B (ab.dN (s.at_ + 3)) [] 0 16 hl hB (by omega) (by omega) (by omega)) V.fm rfl (ar .nil) (by rintro _ _ ⟨rfl, rfl⟩; exact lA (ab.wo hx1 hk0 (by omega)) PE.end_ (aV (.cons ay .nil) (by exact xc (M := FF) (F := F)) (fun w0 h hh => cU hh)))) ?_
     refine nM ?_
     refine nN ?_
     refine nG V.eL ?_
     refine nR (fun y FF hA => ae V.dV rfl an rfl) ?_
     refine bM (.bool true) _ _ (fun y => rfl) rfl (fun y => rfl) (fun y FF hA => (dO.fact (hA 4 (by decide)) (q := fun _ => False) rfl).elim) ?_
     refine bM (.bool true) _ _ (fun y => rfl) rfl (fun y => rfl) (fun y FF hA => (dO.fact (hA 4 (by decide)) (q := fun _ => False) rfl).elim) ?_
     refine bM (.bool true) _ _ (fun y => rfl) rfl (fun y => rfl) (fun y FF hA => (dO.fact (hA 4 (by decide)) (q := fun _ => False) rfl).elim) ?_
     refine aX ?_
     intro y hA
     exact (dO.fact (hA 4 (by exact Nat.le_of_ble_eq_true rfl)) (q := fun _ => False) rfl).elim
    ·refine rC cX 1 rfl ?_
     have hk0 : (aj.aT B (s.at_ + 1) 2) = 0 := by omega
     refine wN [pz 0 [] [0], pz 1 [0] [], pz 3 [1] [], pz 7 [2] [], pz 15 [3] [], pz 0 [] [0], pz 32 [5] [], pz 96 [6] [], pz 224 [7] [], pz 511 [8] [], pz 1023 [4] [], pz 2047 [9] []] [⟨fun y => LW bl B (ab.dN (s.at_ + 3)) [] 0, none, some 4, []⟩, ⟨fun y => ao b 223 [.pointer (some ⟨bl, 0, none⟩), .int .i64 sz, .int .i64 mo, .slice po s.out.length co, .bool s.ended, .int .i64 0, .int .i64 (aj.aT B (s.at_ + 1) 2), .int .i64 (s.left : Int), .bool (decide (aj.aT B s.at_ 1 = 1)), li, di, .int .i64 (s.aB : Int), .int .i64 (s.cE : Int)], none, none, [3, 8, 9]⟩, ⟨fun y => Row U5 po s.out.length co s.out, none, none, []⟩, ⟨fun y => LW bl B ((ab.dN (s.at_ + 3)) + 16) [] 0, some 4, none, [9]⟩] F V.mixed ?_
     refine nM ?_
     refine nN ?_
     refine nG V.eL ?_
     refine nR (fun y FF hA => ae V.dV rfl an rfl) ?_
     refine nE (fun y FF hA => bO (Post := [LW bl B ((ab.dN (s.at_ + 3)) + 16) [] 0]) (fP bl B (ab.dN (s.at_ + 3)) [] 0 16 hl hB (by omega) (by omega)) V.fm rfl (ar .nil) (fun v G h => by rcases h with ⟨rfl, rfl⟩; exact ⟨rfl, .refl _⟩)) ?_
     refine nM ?_
     refine nN ?_
     refine nG V.eL ?_
     refine nR (fun y FF hA => ae V.dV rfl an rfl) ?_
     refine bM (undef) _ _ (fun y => rfl) rfl (fun y => rfl) (fun y FF hA => fZ (gA bl B ((ab.dN (s.at_ + 3)) + 16) [] 0 16 hl hB (by omega) (by omega) (by omega)) V.fm rfl (.cons ay .nil) (by rintro _ _ ⟨rfl, rfl⟩; exact lA (ab.wo hx1 hk0 (by omega)) PE.end_ (aV (.cons ay .nil) (by exact xc (M := FF) (F := F)) (fun w0 h hh => cU hh)))) ?_
     refine bM (.bool true) _ _ (fun y => rfl) rfl (fun y => rfl) (fun y FF hA => (dO.fact (hA 9 (by decide)) (q := fun _ => False) rfl).elim) ?_
     refine bM (.bool true) _ _ (fun y => rfl) rfl (fun y => rfl) (fun y FF hA => (dO.fact (hA 9 (by decide)) (q := fun _ => False) rfl).elim) ?_
     refine aX ?_
     intro y hA
     exact (dO.fact (hA 9 (by exact Nat.le_of_ble_eq_true rfl)) (q := fun _ => False) rfl).elim
    ·refine rC cX 1 rfl ?_
     have hk0 : (aj.aT B (s.at_ + 1) 2) = 0 := by omega
     refine wN [pz 0 [] [0], pz 1 [0] [], pz 3 [1] [], pz 7 [2] [], pz 15 [3] [], pz 0 [] [0], pz 32 [5] [], pz 96 [6] [], pz 224 [7] [], pz 511 [8] [], pz 1023 [4] [], pz 2047 [9] []] [⟨fun y => LW bl B (ab.dN (s.at_ + 3)) [] 0, none, some 4, []⟩, ⟨fun y => ao b 223 [.pointer (some ⟨bl, 0, none⟩), .int .i64 sz, .int .i64 mo, .slice po s.out.length co, .bool s.ended, .int .i64 0, .int .i64 (aj.aT B (s.at_ + 1) 2), .int .i64 (s.left : Int), .bool (decide (aj.aT B s.at_ 1 = 1)), li, di, .int .i64 (s.aB : Int), .int .i64 (s.cE : Int)], none, none, [3, 8]⟩, ⟨fun y => Row U5 po s.out.length co s.out, none, none, []⟩, ⟨fun y => LW bl B ((ab.dN (s.at_ + 3)) + 16) [] 0, some 4, some 9, []⟩, ⟨fun y => LW bl B ((ab.dN (s.at_ + 3)) + 32) [] 0, some 9, none, []⟩] F V.mixed ?_
     refine nM ?_
     refine nN ?_
     refine nG V.eL ?_
     refine nR (fun y FF hA => ae V.dV rfl an rfl) ?_
     refine nE (fun y FF hA => bO (Post := [LW bl B ((ab.dN (s.at_ + 3)) + 16) [] 0]) (fP bl B (ab.dN (s.at_ + 3)) [] 0 16 hl hB (by omega) (by omega)) V.fm rfl (ar .nil) (fun v G h => by rcases h with ⟨rfl, rfl⟩; exact ⟨rfl, .refl _⟩)) ?_
     refine nM ?_
     refine nN ?_
     refine nG V.eL ?_
     refine nR (fun y FF hA => ae V.dV rfl an rfl) ?_
     refine nE (fun y FF hA => bO (Post := [LW bl B ((ab.dN (s.at_ + 3)) + 32) [] 0]) (fP bl B ((ab.dN (s.at_ + 3)) + 16) [] 0 16 hl hB (by omega) (by omega)) V.fm rfl (ar .nil) (fun v G h => by rcases h with ⟨rfl, rfl⟩; exact ⟨rfl, .refl _⟩)) ?_
     iterate 2 refine nA ?_
     refine aX ?_
     intro y hA
     clear hA
     refine bN ?_
     refine cu _ (.cons (d := 0) rfl (.cons (d := 2) rfl (.cons (d := 3) rfl (.nil _)))) ?_
     refine bS (M := ao b 223 [.pointer (some ⟨bl, 0, none⟩), .int .i64 sz, .int .i64 mo, .slice po s.out.length co, .bool s.ended, .int .i64 0, .int .i64 (aj.aT B (s.at_ + 1) 2), .int .i64 (s.left : Int), .bool (decide (aj.aT B s.at_ 1 = 1)), li, di, .int .i64 (s.aB : Int), .int .i64 (s.cE : Int)] :: Row U5 po s.out.length co s.out :: LW bl B ((ab.dN (s.at_ + 3)) + 32) [] 0 :: F) (fun _ _ h => h) ?_
     rcases (Classical.em ((aj.aT B (ab.dN (s.at_ + 3)) 16) = 65535 - (aj.aT B ((ab.dN (s.at_ + 3)) + 16) 16))) with hm | hm
     ·refine rC cX 4 rfl ?_
      refine oV (pn (r := (IntKind.i64.wrap ((BitVec.ofInt IntKind.i64.bits (aj.aT B (ab.dN (s.at_ + 3)) 16) ^^^ BitVec.ofInt IntKind.i64.bits (aj.aT B ((ab.dN (s.at_ + 3)) + 16) 16)).toNat : Int))) rfl rfl rfl) ?_
      refine oV (aW (az rfl rfl) ((ab.Gr hn1 hn2).2 hm)) ?_
      refine ai (kU 4) V.iO  rfl .nil rfl ?_
      rintro _ _ ⟨rfl, rfl⟩
      refine rO cX 7 rfl ?_
      refine aU (bZ V.s3 rfl rfl rfl (by exact cY) (by exact Nat.le_of_ble_eq_true rfl) rfl) ?_
      refine rO cX 2 rfl ?_
      rw [hk0, show (aj.aT B (ab.dN (s.at_ + 3)) 16) = ((((aj.aT B (ab.dN (s.at_ + 3)) 16)).toNat : Nat) : Int) from (Int.toNat_of_nonneg hn1.1).symm]
      exact iw (x := { s with at_ := ab.dN (s.at_ + 3) + 32, kind := 0, left := (aj.aT B (ab.dN (s.at_ + 3)) 16).toNat, last := (decide (aj.aT B s.at_ 1 = 1)) }) (ab.xv hx1 hk0 (by omega) hm) fI ⟨rfl, rfl⟩ ((aV (bF .nil) .refl (fun w0 h hh => dz (s := { s with at_ := ab.dN (s.at_ + 3) + 32, kind := 0, left := (aj.aT B (ab.dN (s.at_ + 3)) 16).toNat, last := (decide (aj.aT B s.at_ 1 = 1)) }) rfl hh)).trans (aV (bF .nil) aw (fun w0 h hh => ny (s := { s with at_ := ab.dN (s.at_ + 3) + 32, kind := 0, left := (aj.aT B (ab.dN (s.at_ + 3)) 16).toNat, last := (decide (aj.aT B s.at_ 1 = 1)) }) (Int.le_refl _) hh)))
     ·refine rC cX 4 rfl ?_
      refine oV (pn (r := (IntKind.i64.wrap ((BitVec.ofInt IntKind.i64.bits (aj.aT B (ab.dN (s.at_ + 3)) 16) ^^^ BitVec.ofInt IntKind.i64.bits (aj.aT B ((ab.dN (s.at_ + 3)) + 16) 16)).toNat : Int))) rfl rfl rfl) ?_
      refine oV (aA (az rfl rfl) (fun h => hm ((ab.Gr hn1 hn2).1 h))) ?_
      refine dK (iP 4) V.iO rfl .nil ?_
      rintro _ _ ⟨rfl, rfl⟩
      refine (dZ (fC ?_))
      exact eA (ab.CM hx1 hk0 (by omega) hm) (PE.no (by decide)) (aV (ar .nil) ie (fun w0 h hh => cU hh))
   ·refine rC cX 6 rfl ?_
    refine aN rfl (fun h52 => ?_) (fun h52 => ?_)
    ·refine rC cX 2 rfl ?_
     refine ai (IN b bl sz mo po s.out.length co li di { s with kind := (aj.aT B (s.at_ + 1) 2), last := (decide (aj.aT B s.at_ 1 = 1)) }) V.P8  rfl (.cons ay .nil) rfl ?_
     rintro _ _ ⟨lb, db, rfl, rfl⟩
     refine rO cX 2 rfl ?_
     have hk1 : (aj.aT B (s.at_ + 1) 2) = 1 := by omega
     rw [hk1]
     exact iw (x := { s with at_ := s.at_ + 3, kind := 1, last := (decide (aj.aT B s.at_ 1 = 1)), lits := ab.ga, eO := ab.lB }) (ab.F7 hx1 hk1) fI ⟨rfl, rfl⟩ ((aV (ar (.cons dI .nil)) .refl (fun w0 h hh => dz (s := { s with at_ := s.at_ + 3, kind := 1, last := (decide (aj.aT B s.at_ 1 = 1)), lits := ab.ga, eO := ab.lB }) rfl hh)).trans (aV (ar (.cons bX (.cons dQ (.cons dQ .nil)))) aw (fun w0 h hh => mg (s := { s with at_ := s.at_ + 3, kind := 1, last := (decide (aj.aT B s.at_ 1 = 1)), lits := ab.ga, eO := ab.lB }) hh)))
    ·refine rC cX 6 rfl ?_
     refine aN rfl (fun h56 => ?_) (fun h56 => ?_)
     ·rcases (ab.gI (ab.told B (s.at_ + 3))) with ⟨e, ht⟩ | ⟨⟨x3, ll, dl⟩, ht⟩
      ·refine rC cX 2 rfl ?_
       refine dK ((Ci b bl sz mo po s.out.length co li di { s with kind := (aj.aT B (s.at_ + 1) 2), last := (decide (aj.aT B s.at_ 1 = 1)) } B (s.at_ + 3) hl hB (by omega)).err ht) V.MN rfl (.cons ay (ar .nil)) ?_
       rintro _ _ ⟨hp, rfl⟩
       refine (fC ?_)
       exact eA (ab.BX hx1 (by omega) ht) hp (sub (ar .nil) cD)
      ·refine rC cX 2 rfl ?_
       refine ai ((Ci b bl sz mo po s.out.length co li di { s with kind := (aj.aT B (s.at_ + 1) 2), last := (decide (aj.aT B s.at_ 1 = 1)) } B (s.at_ + 3) hl hB (by omega)).ok ht) V.MN  rfl (.cons ay (ar .nil)) rfl ?_
       rintro _ _ ⟨lb, db, rfl, rfl⟩
       refine rO cX 2 rfl ?_
       have hk2 : (aj.aT B (s.at_ + 1) 2) = 2 := by omega
       rw [hk2]
       exact iw (x := { s with at_ := x3, kind := 2, last := (decide (aj.aT B s.at_ 1 = 1)), lits := ll, eO := dl }) (ab.Cr hx1 hk2 ht) fI ⟨rfl, rfl⟩ ((aV (ar (.cons dI .nil)) .refl (fun w0 h hh => dz (s := { s with at_ := x3, kind := 2, last := (decide (aj.aT B s.at_ 1 = 1)), lits := ll, eO := dl }) rfl hh)).trans (aV (nH .nil) aw (fun w0 h hh => mg (s := { s with at_ := x3, kind := 2, last := (decide (aj.aT B s.at_ 1 = 1)), lits := ll, eO := dl }) hh)))
     ·refine bK ?_
      refine dK (iP 4) V.iO rfl .nil ?_
      rintro _ _ ⟨rfl, rfl⟩
      refine (fC ?_)
      exact eA (ab.BR hx1 (by omega) (by omega) (by omega)) (PE.no (by decide)) (aV (.cons ay .nil) ie (fun w0 h hh => cU hh))
end Go.Proofs.YtmaiakpjgomnpaaGreat
namespace Go.Proofs.YtmaiakpjgomnpaaGreat
open Go.Sl 
theorem da : dU Tryz.prog ⟨[], [(223, 0, 0), (223, 6, 6), (223, 7, 7), (223, 11, 11), (223, 12, 12)]⟩ = true := by kernel_rfl
attribute [local irreducible] af.cg af.tk af.ord af.cM af.words af.dj ab.iK ab.dg ab.dE ab.ew ab.hL ab.hD ab.hC ab.fF ab.told ab.ga ab.ju ab.rep ab.fw ab.eI ab.sym ab.dN aj.aT ab.fa ab.dT ab.eY
theorem oy (b bl : Nat) (sz mo : Int) (po : Option Addr) (co : Nat) (li di : Value) (s : ab.St) (yb : Int) (hy : 0 ≤ yb ∧ yb < 256) (hm : mo < 1000000000) : aG Tryz.prog 179 [.pointer (some ⟨b, 0, none⟩), .int .u8 yb] [ao b 223 [.pointer (some ⟨bl, 0, none⟩), .int .i64 sz, .int .i64 mo, .slice po s.out.length co, .bool s.ended, .int .i64 0, .int .i64 s.kind, .int .i64 (s.left : Int), .bool s.last, li, di, .int .i64 (s.aB : Int), .int .i64 (s.cE : Int)], Row U5 po s.out.length co s.out] (iF (ab.eY mo s yb) (fun s2 v G => v = .tuple #[] ∧ G = [MS b bl sz mo li di s2]) [MX b bl sz mo]) :=
 aG.fold (M1 b bl sz mo li di s yb hy hm) (fun w0 h hh => dz rfl hh)
set_option maxHeartbeats 4000000 in
theorem zH (b bl : Nat) (sz mo : Int) (l d : Nat) (s : ab.St) (B : List Int) (hl : B.length < 500000000) (hB : aj.au B) (hm : mo < 1000000000) (hok : ab.Ok B mo s) (hk : 0 < s.kind) : aG Tryz.prog 181 [.pointer (some ⟨b, 0, none⟩)] [MS b bl sz mo (.pointer (some ⟨l, 0, none⟩)) (.pointer (some ⟨d, 0, none⟩)) s, LW bl B s.at_ [] 0, HC l s.lits, HC d s.eO] (iF (ab.fa B mo s) (fun s2 v G => v = .tuple #[] ∧ G = [MM b bl sz mo B s2]) [MX b bl sz mo]) := by
 refine av [(0, _)] Tryz.func181 rfl Tryz.ntmps181 rfl rfl ?_
 intro w0 F
 refine gD (fun h hh => hh) ?_
 rintro ⟨po, co⟩ _
 dsimp only
 obtain ⟨hE1, hE2, hz1, hz2⟩ := hok.Gw hk
 have ha := hok.at_
 have hll := ab.yr hE1
 have hro := hok.room
 rcases (ab.xH (B := B) (ls := s.lits) (a := s.at_) hE1 hz1) with ⟨e, hs⟩ | ⟨sy, a1, hs, hy0, hy1, ha0, ha1⟩
 ·refine rT da 1 rfl ?_
  refine wN [pz 0 [] [0], pz 1 [0] [], pz 3 [1] [], pz 7 [2] [], pz 0 [] [0], pz 16 [4] [], pz 48 [5] [], pz 112 [6] [], pz 255 [3, 7] [], pz 511 [8] []] [⟨fun y => ao b 223 [.pointer (some ⟨bl, 0, none⟩), .int .i64 sz, .int .i64 mo, .slice po s.out.length co, .bool s.ended, .int .i64 0, .int .i64 s.kind, .int .i64 (s.left : Int), .bool s.last, (.pointer (some ⟨l, 0, none⟩)), (.pointer (some ⟨d, 0, none⟩)), .int .i64 (s.aB : Int), .int .i64 (s.cE : Int)], none, none, [3, 7, 8]⟩, ⟨fun y => Row U5 po s.out.length co s.out, none, none, []⟩, ⟨fun y => LW bl B s.at_ [] 0, none, none, [8]⟩, ⟨fun y => HC l s.lits, none, none, [8]⟩, ⟨fun y => HC d s.eO, none, none, []⟩] F V.mixed ?_
  refine nM ?_
  refine nN ?_
  refine nG V.xV ?_
  refine nR (fun y FF hA => ae V.pS rfl an rfl) ?_
  refine nM ?_
  refine nN ?_
  refine nG V.eL ?_
  refine nR (fun y FF hA => ae V.dV rfl an rfl) ?_
  refine bM (undef) _ _ (fun y => rfl) rfl (fun y => rfl) (fun y FF hA => fZ ((oI l s.lits bl B s.at_ [] 0 hE1 hl hB ha).err hs) V.sG rfl (.cons bX (.cons ay .nil)) (by rintro _ _ ⟨hp, rfl⟩; exact lA (ab.vV hs) hp (aV (ar .nil) (by exact vn (M := FF) (F := F)) (fun w0 h hh => cU hh)))) ?_
  refine bM (.bool true) _ _ (fun y => rfl) rfl (fun y => rfl) (fun y FF hA => (dO.fact (hA 8 (by decide)) (q := fun _ => False) rfl).elim) ?_
  refine aX ?_
  intro y hA
  exact (dO.fact (hA 8 (by exact Nat.le_of_ble_eq_true rfl)) (q := fun _ => False) rfl).elim
 ·refine rT da 1 rfl ?_
  refine wN [pz 0 [] [0], pz 1 [0] [], pz 3 [1] [], pz 7 [2] [], pz 0 [] [0], pz 16 [4] [], pz 48 [5] [], pz 112 [6] [], pz 255 [3, 7] [], pz 511 [8] []] [⟨fun y => ao b 223 [.pointer (some ⟨bl, 0, none⟩), .int .i64 sz, .int .i64 mo, .slice po s.out.length co, .bool s.ended, .int .i64 0, .int .i64 s.kind, .int .i64 (s.left : Int), .bool s.last, (.pointer (some ⟨l, 0, none⟩)), (.pointer (some ⟨d, 0, none⟩)), .int .i64 (s.aB : Int), .int .i64 (s.cE : Int)], none, none, [3, 7]⟩, ⟨fun y => Row U5 po s.out.length co s.out, none, none, []⟩, ⟨fun y => LW bl B s.at_ [] 0, none, some 8, []⟩, ⟨fun y => HC l s.lits, none, some 8, []⟩, ⟨fun y => HC d s.eO, none, none, []⟩, ⟨fun y => HC l s.lits, some 8, none, []⟩, ⟨fun y => LW bl B a1 [] 0, some 8, none, []⟩] F V.mixed ?_
  refine nM ?_
  refine nN ?_
  refine nG V.xV ?_
  refine nR (fun y FF hA => ae V.pS rfl an rfl) ?_
  refine nM ?_
  refine nN ?_
  refine nG V.eL ?_
  refine nR (fun y FF hA => ae V.dV rfl an rfl) ?_
  refine nE (fun y FF hA => bO (Post := [HC l s.lits, LW bl B a1 [] 0]) ((oI l s.lits bl B s.at_ [] 0 hE1 hl hB ha).ok hs) V.sG rfl (.cons ay (ar .nil)) (fun v G h => by rcases h with ⟨rfl, rfl⟩; exact ⟨rfl, .refl _⟩)) ?_
  refine nA ?_
  refine aX ?_
  intro y hA
  clear hA
  refine bN ?_
  refine cu _ (.cons (d := 0) rfl (.cons (d := 2) rfl (.nil _))) ?_
  refine bS (M := ao b 223 [.pointer (some ⟨bl, 0, none⟩), .int .i64 sz, .int .i64 mo, .slice po s.out.length co, .bool s.ended, .int .i64 0, .int .i64 s.kind, .int .i64 (s.left : Int), .bool s.last, (.pointer (some ⟨l, 0, none⟩)), (.pointer (some ⟨d, 0, none⟩)), .int .i64 (s.aB : Int), .int .i64 (s.cE : Int)] :: Row U5 po s.out.length co s.out :: HC d s.eO :: HC l s.lits :: LW bl B a1 [] 0 :: F) (fun _ _ h => h) ?_
  refine rC da 8 rfl ?_
  refine aN rfl (fun h36 => ?_) (fun h36 => ?_)
  ·rcases (ab.gI (ab.eY mo { s with at_ := a1 } sy)) with ⟨e, hp⟩ | ⟨s2, hp⟩
   ·refine rC da 3 rfl ?_
    refine oV (bg V.u3 Tryz.underlying5 rfl (kc (by omega) (by omega))) ?_
    refine dK ((oy b bl sz mo po co (.pointer (some ⟨l, 0, none⟩)) (.pointer (some ⟨d, 0, none⟩)) { s with at_ := a1 } sy (by omega) hm).err hp) V.uZ rfl (bF .nil) ?_
    rintro _ _ ⟨hpe, rfl⟩
    refine (fC ?_)
    exact eA ((ab.od hs (by omega)).trans hp) hpe (sub (ar .nil) n8)
   ·refine rC da 3 rfl ?_
    refine oV (bg V.u3 Tryz.underlying5 rfl (kc (by omega) (by omega))) ?_
    refine ai ((oy b bl sz mo po co (.pointer (some ⟨l, 0, none⟩)) (.pointer (some ⟨d, 0, none⟩)) { s with at_ := a1 } sy (by omega) hm).ok hp) V.uZ  rfl (bF .nil) rfl ?_
    rintro _ _ ⟨rfl, rfl⟩
    refine rO da 2 rfl ?_
    obtain ⟨_, rfl⟩ := ab.qS hp
    exact iw ((ab.od hs (by omega)).trans hp) fI ⟨rfl, rfl⟩ (aV (ar (.cons bX (.cons ay (.cons dQ .nil)))) aw (fun w0 h hh => mg (s := { s with at_ := a1, out := s.out ++ [sy] }) hh))
  ·refine rC da 7 rfl ?_
   refine aN rfl (fun h43 => ?_) (fun h43 => ?_)
   ·refine rC da 2 rfl ?_
    refine ai (yQ b bl sz mo po s.out.length co (.pointer (some ⟨l, 0, none⟩)) (.pointer (some ⟨d, 0, none⟩)) s) V.Lt  rfl (ar .nil) rfl ?_
    rintro _ _ ⟨rfl, rfl⟩
    refine rO da 2 rfl ?_
    exact iw (x := { s with at_ := a1, kind := -1, ended := s.last }) (ab.ru hs (by omega)) fI ⟨rfl, rfl⟩ ((aV (bF .nil) .refl (fun w0 h hh => dz (s := { s with at_ := a1, kind := -1, ended := s.last }) rfl hh)).trans (aV (ar (.cons bX (.cons ay (.cons dQ .nil)))) aw (fun w0 h hh => mg (s := { s with at_ := a1, kind := -1, ended := s.last }) hh)))
   ·rcases (ab.Bm (B := B) (s := sy - 257) (a := a1) (by omega) ha1) with ⟨e, hn⟩ | ⟨n, a2, hn, hn0, hn1, hn2, hn3⟩
    ·refine fH da 6 rfl (by omega) ?_
     refine oV (fT (r := sy - 257) rfl rfl (by rw [show sy - 256 - 1 = sy - 257 from by omega]; exact gF (by omega) (by omega))) ?_
     refine dK ((xC b bl sz mo po s.out.length co (.pointer (some ⟨l, 0, none⟩)) (.pointer (some ⟨d, 0, none⟩)) s B a1 (sy - 257) (by omega) hl hB ha1).err hn) V.KC rfl (ar (.cons dI .nil)) ?_
     rintro _ _ ⟨hpe, rfl⟩
     refine (dZ (fC ?_))
     exact eA (ab.vH hs (by omega) hn) hpe (sub (ar .nil) n8)
    ·refine fH da 6 rfl (by omega) ?_
     refine oV (fT (r := sy - 257) rfl rfl (by rw [show sy - 256 - 1 = sy - 257 from by omega]; exact gF (by omega) (by omega))) ?_
     refine ai ((xC b bl sz mo po s.out.length co (.pointer (some ⟨l, 0, none⟩)) (.pointer (some ⟨d, 0, none⟩)) s B a1 (sy - 257) (by omega) hl hB ha1).ok hn) V.KC  rfl (ar (.cons dI .nil)) rfl ?_
     rintro _ _ ⟨rfl, rfl⟩
     refine rO da 2 rfl ?_
     refine aU (bZ V.s3 rfl rfl rfl (by exact cY) (by exact Nat.le_of_ble_eq_true rfl) rfl) ?_
     refine rO da 2 rfl ?_
     rcases (ab.y9 (B := B) (ds := s.eO) (a := a2) hE2 hz2) with ⟨e, hf⟩ | ⟨f, a3, hf, hf0, hf1, hf2, hf3⟩
     ·refine rC da 4 rfl ?_
      refine dK ((Dy b bl sz mo po s.out.length co (.pointer (some ⟨l, 0, none⟩)) d { s with aB := n } B s.eO a2 hE2 hz2 hl hB hn3).err hf) V.Lq rfl (ar (.cons bX (.cons dQ .nil))) ?_
      rintro _ _ ⟨hpe, rfl⟩
      refine (dZ (fC ?_))
      exact eA (ab.vT hs (by omega) hn hf) hpe (sub (ar .nil) ie)
     ·refine rC da 4 rfl ?_
      refine ai ((Dy b bl sz mo po s.out.length co (.pointer (some ⟨l, 0, none⟩)) d { s with aB := n } B s.eO a2 hE2 hz2 hl hB hn3).ok hf) V.Lq  rfl (ar (.cons bX (.cons dQ .nil))) rfl ?_
      rintro _ _ ⟨rfl, rfl⟩
      refine rO da 2 rfl ?_
      refine aU (bZ V.s3 rfl rfl rfl (by exact cY) (by exact Nat.le_of_ble_eq_true rfl) rfl) ?_
      refine rO da 2 rfl ?_
      rcases (Classical.em (f ≤ s.out.length)) with hfo | hfo
      ·refine wN [pz 0 [] [0], pz 1 [0] [], pz 3 [1] [], pz 7 [2] [], pz 0 [] [0], pz 16 [4] [], pz 48 [5] [], pz 112 [6] [], pz 240 [7] [], pz 511 [3, 8] [], pz 1023 [9] []] [⟨fun y => ao b 223 [.pointer (some ⟨bl, 0, none⟩), .int .i64 sz, .int .i64 mo, .slice po s.out.length co, .bool s.ended, .int .i64 0, .int .i64 s.kind, .int .i64 (s.left : Int), .bool s.last, (.pointer (some ⟨l, 0, none⟩)), (.pointer (some ⟨d, 0, none⟩)), .int .i64 (n : Int), .int .i64 (f : Int)], none, none, [3, 7]⟩, ⟨fun y => HC d s.eO, none, none, []⟩, ⟨fun y => LW bl B a3 [] 0, none, none, []⟩, ⟨fun y => Row U5 po s.out.length co s.out, none, none, []⟩, ⟨fun y => HC l s.lits, none, none, []⟩] F V.mixed ?_
       refine nM ?_
       refine nN ?_
       refine nG V.rn ?_
       refine nR (fun y FF hA => ae V.s3 rfl an rfl) ?_
       refine nM ?_
       refine nN ?_
       refine nG V.kP ?_
       refine nR (fun y FF hA => ae V.eC rfl an rfl) ?_
       refine nV (fun y hA L => ez (ty' := 0) Tryz.underlying22 rfl) ?_
       refine nV (fun y hA L => aW (eH rfl rfl) (by omega)) ?_
       refine nE (fun y FF hA => bO (Post := []) (kU 4) V.iO rfl .nil (fun v G h => by rcases h with ⟨rfl, rfl⟩; exact ⟨rfl, .refl _⟩)) ?_
       refine aX ?_
       intro y hA
       clear hA
       show lL _ _ _ _ (ao b 223 [.pointer (some ⟨bl, 0, none⟩), .int .i64 sz, .int .i64 mo, .slice po s.out.length co, .bool s.ended, .int .i64 0, .int .i64 s.kind, .int .i64 (s.left : Int), .bool s.last, (.pointer (some ⟨l, 0, none⟩)), (.pointer (some ⟨d, 0, none⟩)), .int .i64 (n : Int), .int .i64 (f : Int)] :: HC d s.eO :: LW bl B a3 [] 0 :: Row U5 po s.out.length co s.out :: HC l s.lits :: F)
       refine kC ?_
       exact iw (x := { s with at_ := a3, aB := n, cE := f }) (ab.vM hs (by omega) hn hf (by omega)) fI ⟨rfl, rfl⟩ ((aV (ar (.cons bX .nil)) .refl (fun w0 h hh => dz (s := { s with at_ := a3, aB := n, cE := f }) rfl hh)).trans (aV (ar (.cons ay (.cons ay (.cons dQ .nil)))) aw (fun w0 h hh => mg (s := { s with at_ := a3, aB := n, cE := f }) hh)))
      ·refine wN [pz 0 [] [0], pz 1 [0] [], pz 3 [1] [], pz 7 [2] [], pz 0 [] [0], pz 16 [4] [], pz 48 [5] [], pz 112 [6] [], pz 240 [7] [], pz 511 [3, 8] [], pz 1023 [9] []] [⟨fun y => ao b 223 [.pointer (some ⟨bl, 0, none⟩), .int .i64 sz, .int .i64 mo, .slice po s.out.length co, .bool s.ended, .int .i64 0, .int .i64 s.kind, .int .i64 (s.left : Int), .bool s.last, (.pointer (some ⟨l, 0, none⟩)), (.pointer (some ⟨d, 0, none⟩)), .int .i64 (n : Int), .int .i64 (f : Int)], none, none, [3, 7, 10]⟩, ⟨fun y => HC d s.eO, none, none, []⟩, ⟨fun y => LW bl B a3 [] 0, none, none, []⟩, ⟨fun y => Row U5 po s.out.length co s.out, none, none, []⟩, ⟨fun y => HC l s.lits, none, none, []⟩] F V.mixed ?_
       refine nM ?_
       refine nN ?_
       refine nG V.rn ?_
       refine nR (fun y FF hA => ae V.s3 rfl an rfl) ?_
       refine nM ?_
       refine nN ?_
       refine nG V.kP ?_
       refine nR (fun y FF hA => ae V.eC rfl an rfl) ?_
       refine nV (fun y hA L => ez (ty' := 0) Tryz.underlying22 rfl) ?_
       refine nV (fun y hA L => aA (eH rfl rfl) (by omega)) ?_
       refine bM (undef) _ _ (fun y => rfl) rfl (fun y => rfl) (fun y FF hA => fZ (iP 4) V.iO rfl .nil (by rintro _ _ ⟨rfl, rfl⟩; exact lA (ab.vI hs (by omega) hn hf (by omega)) (PE.no (by decide)) (aV (ar .nil) (by exact vn (M := FF) (F := F)) (fun w0 h hh => cU hh)))) ?_
       refine aX ?_
       intro y hA
       exact (dO.fact (hA 10 (by exact Nat.le_of_ble_eq_true rfl)) (q := fun _ => False) rfl).elim
set_option maxHeartbeats 4000000 in
theorem GI (b bl : Nat) (sz mo : Int) (s : ab.St) (B : List Int) (hl : B.length < 500000000) (hB : aj.au B) (hm : mo < 1000000000) (hok : ab.Ok B mo s) : aG Tryz.prog 169 [.pointer (some ⟨b, 0, none⟩)] [MM b bl sz mo B s] (iF (ab.one B mo s) (fun s2 v G => v = .tuple #[] ∧ G = [MM b bl sz mo B s2]) [MX b bl sz mo]) := by
 refine av [(0, _)] Tryz.func169 rfl Tryz.ntmps169 rfl rfl ?_
 intro w0 F
 refine gD (fun h hh => hh) ?_
 rintro ⟨li, di⟩ _
 dsimp only
 refine gD (fun h hh => hh) ?_
 rintro ⟨po, co⟩ _
 dsimp only
 simp only [List.cons_append, List.nil_append]
 have ha := hok.at_
 have hro := hok.room
 have hcp := hok.aB
 have hlf := hok.left
 have hnb := aj.cH B s.at_ 8
 refine rT da 6 rfl ?_
 refine oV (ae V.s3 rfl an rfl) ?_
 refine rO da 4 rfl ?_
 refine aN rfl (fun h17 => ?_) (fun h17 => ?_)
 ·rcases (ab.gI (ab.eY mo s (U5.g s.out ((s.out.length : Int) - (s.cE : Int))))) with ⟨e, hp⟩ | ⟨s2, hp⟩
  ·refine rC da 1 rfl ?_
   have hcs : 0 < s.aB := by omega
   have hfr := hok.cE hcs
   have hge : U5.g s.out ((s.out.length : Int) - (s.cE : Int)) = s.out.getD (s.out.length - s.cE) 0 := gE _ (by omega)
   refine wN [pz 0 [] [0], pz 0 [] [0], pz 2 [1] [], pz 6 [2] [], pz 14 [3] [], pz 0 [] [0], pz 32 [5] [], pz 96 [6] [], pz 224 [7] [], pz 480 [8] [], pz 0 [] [0], pz 1024 [10] [], pz 3072 [11] [], pz 7168 [12] [], pz 16352 [9, 13] [], pz 32766 [4, 14] [], pz 65534 [15] [], pz 131071 [0, 16] []] [⟨fun y => ao b 223 [.pointer (some ⟨bl, 0, none⟩), .int .i64 sz, .int .i64 mo, .slice po s.out.length co, .bool s.ended, .int .i64 0, .int .i64 s.kind, .int .i64 (s.left : Int), .bool s.last, li, di, .int .i64 (s.aB : Int), .int .i64 (s.cE : Int)], none, none, [4, 8, 13, 17]⟩, ⟨fun y => Row U5 po s.out.length co s.out, none, none, [15, 16, 17]⟩, ⟨fun y => LW bl B s.at_ [] 0, none, none, []⟩, ⟨fun y => CD li di s, none, none, []⟩] F V.mixed ?_
   iterate 2 refine nM ?_
   refine nN ?_
   refine nG V.kP ?_
   refine nR (fun y FF hA => ae V.eC rfl an rfl) ?_
   refine nM ?_
   refine nN ?_
   refine nG V.kP ?_
   refine nR (fun y FF hA => ae V.eC rfl an rfl) ?_
   refine nV (fun y hA L => ez (ty' := 0) Tryz.underlying22 rfl) ?_
   refine nM ?_
   refine nN ?_
   refine nG V.rn ?_
   refine nR (fun y FF hA => ae V.s3 rfl an rfl) ?_
   refine nV (fun y hA L => fT rfl rfl wI) ?_
   refine nR (fun y FF hA => xI V.bY (own an)) ?_
   refine nR (fun y FF hA => xL V.s5 (own an)) ?_
   refine bM (undef) _ _ (fun y => rfl) rfl (fun y => rfl) (fun y FF hA => fZ ((oy b bl sz mo po co li di s (U5.g s.out ((s.out.length : Int) - (s.cE : Int))) (by rw [hge]; exact hok.s7.get _) hm).err hp) V.uZ rfl (bF .nil) (by rintro _ _ ⟨hpe, rfl⟩; exact lA (ab.Mt hcs (by rw [← hge]; exact hp)) hpe (sub (ar .nil) (by exact vn (M := FF) (F := F))))) ?_
   refine aX ?_
   intro y hA
   exact (dO.fact (hA 17 (by exact Nat.le_of_ble_eq_true rfl)) (q := fun _ => False) rfl).elim
  ·refine rC da 1 rfl ?_
   have hcs : 0 < s.aB := by omega
   have hfr := hok.cE hcs
   have hge : U5.g s.out ((s.out.length : Int) - (s.cE : Int)) = s.out.getD (s.out.length - s.cE) 0 := gE _ (by omega)
   refine wN [pz 0 [] [0], pz 0 [] [0], pz 2 [1] [], pz 6 [2] [], pz 14 [3] [], pz 0 [] [0], pz 32 [5] [], pz 96 [6] [], pz 224 [7] [], pz 480 [8] [], pz 0 [] [0], pz 1024 [10] [], pz 3072 [11] [], pz 7168 [12] [], pz 16352 [9, 13] [], pz 32766 [4, 14] [], pz 65534 [15] [], pz 131071 [0, 16] []] [⟨fun y => ao b 223 [.pointer (some ⟨bl, 0, none⟩), .int .i64 sz, .int .i64 mo, .slice po s.out.length co, .bool s.ended, .int .i64 0, .int .i64 s.kind, .int .i64 (s.left : Int), .bool s.last, li, di, .int .i64 (s.aB : Int), .int .i64 (s.cE : Int)], none, some 17, [4, 8, 13]⟩, ⟨fun y => Row U5 po s.out.length co s.out, none, some 17, [15, 16]⟩, ⟨fun y => LW bl B s.at_ [] 0, none, none, []⟩, ⟨fun y => CD li di s, none, none, []⟩, ⟨fun y => MS b bl sz mo li di s2, some 17, none, []⟩] F V.mixed ?_
   iterate 2 refine nM ?_
   refine nN ?_
   refine nG V.kP ?_
   refine nR (fun y FF hA => ae V.eC rfl an rfl) ?_
   refine nM ?_
   refine nN ?_
   refine nG V.kP ?_
   refine nR (fun y FF hA => ae V.eC rfl an rfl) ?_
   refine nV (fun y hA L => ez (ty' := 0) Tryz.underlying22 rfl) ?_
   refine nM ?_
   refine nN ?_
   refine nG V.rn ?_
   refine nR (fun y FF hA => ae V.s3 rfl an rfl) ?_
   refine nV (fun y hA L => fT rfl rfl wI) ?_
   refine nR (fun y FF hA => xI V.bY (own an)) ?_
   refine nR (fun y FF hA => xL V.s5 (own an)) ?_
   refine nE (fun y FF hA => bO (Post := [MS b bl sz mo li di s2]) ((oy b bl sz mo po co li di s (U5.g s.out ((s.out.length : Int) - (s.cE : Int))) (by rw [hge]; exact hok.s7.get _) hm).ok hp) V.uZ rfl (bF .nil) (fun v G h => by rcases h with ⟨rfl, rfl⟩; exact ⟨rfl, .refl _⟩)) ?_
   refine aX ?_
   intro y hA
   clear hA
   refine bN ?_
   refine cu _ (.cons (d := 0) rfl (.nil _)) ?_
   refine bS (M := LW bl B s.at_ [] 0 :: CD li di s :: MS b bl sz mo li di s2 :: F) (fun _ _ h => h) ?_
   obtain ⟨hroom, rfl⟩ := ab.qS hp
   refine gr bX (fun h hh => iS hh) ?_
   rintro ⟨po2, co2⟩ _
   dsimp only
   simp only [List.cons_append, List.nil_append]
   refine rC da 4 rfl ?_
   refine oV (ae V.s3 rfl an rfl) ?_
   refine cQ da 3 rfl (by omega) ?_
   refine aU (bZ V.s3 rfl rfl rfl (by exact cY) (by exact Nat.le_of_ble_eq_true rfl) rfl) ?_
   refine rO da 2 rfl ?_
   rw [show (s.aB : Int) - 1 = ((s.aB - 1 : Nat) : Int) from by omega]
   exact iw (x := { s with aB := s.aB - 1, out := s.out ++ [(U5.g s.out ((s.out.length : Int) - (s.cE : Int)))] }) (by rw [hge]; exact ab.Kz hcs hroom) fI ⟨rfl, rfl⟩ ((aV (bF .nil) .refl (fun w0 h hh => dz (s := { s with aB := s.aB - 1, out := s.out ++ [(U5.g s.out ((s.out.length : Int) - (s.cE : Int)))] }) (by simp) hh)).trans (aV (gm .nil) aw (fun w0 h hh => fx (s := { s with aB := s.aB - 1, out := s.out ++ [(U5.g s.out ((s.out.length : Int) - (s.cE : Int)))] }) hh)))
 ·refine rC da 5 rfl ?_
  refine oV (ae V.s3 rfl an rfl) ?_
  refine rO da 4 rfl ?_
  refine aN rfl (fun h48 => ?_) (fun h48 => ?_)
  ·rcases (ab.gI (ab.dT B s)) with ⟨e, hp⟩ | ⟨s2, hp⟩
   ·have hcs : ¬ 0 < s.aB := by omega
    have hk1 : s.kind = -1 := by omega
    refine bS (aV (bF .nil) .refl (fun w0 h hh => dz (s := s) rfl hh)) ?_
    refine rC da 2 rfl ?_
    refine dK ((zY b bl sz mo li di s B hl hB ha).err hp) V.LV rfl (bF .nil) ?_
    rintro _ _ ⟨hpe, rfl⟩
    refine (fC ?_)
    exact eA ((ab.tO hcs hk1).trans hp) hpe (sub (ar .nil) cD)
   ·have hcs : ¬ 0 < s.aB := by omega
    have hk1 : s.kind = -1 := by omega
    refine bS (aV (bF .nil) .refl (fun w0 h hh => dz (s := s) rfl hh)) ?_
    refine rC da 2 rfl ?_
    refine ai ((zY b bl sz mo li di s B hl hB ha).ok hp) V.LV  rfl (bF .nil) rfl ?_
    rintro _ _ ⟨rfl, rfl⟩
    refine rO da 2 rfl ?_
    exact iw ((ab.tO hcs hk1).trans hp) fI ⟨rfl, rfl⟩ (sub (ar .nil) cD)
  ·refine rC da 5 rfl ?_
   refine oV (ae V.s3 rfl an rfl) ?_
   refine rO da 4 rfl ?_
   refine aN rfl (fun h56 => ?_) (fun h56 => ?_)
   ·rcases (ab.gI (ab.fa B mo s)) with ⟨e, hp⟩ | ⟨s2, hp⟩
    ·have hcs : ¬ 0 < s.aB := by omega
     have hk1 : ¬ s.kind = -1 := by omega
     have hk0 : s.kind ≠ 0 := by omega
     have hkp : 0 < s.kind := by have := hok.kind; omega
     refine gr dI (fun h hh => zh hkp hh) ?_
     rintro ⟨l, d⟩ ⟨h1, h2⟩
     dsimp only at h1 h2
     subst h1
     subst h2
     simp only [List.cons_append, List.nil_append]
     refine bS (aV (.cons bX (.cons bX .nil)) .refl (fun w0 h hh => dz (s := s) rfl hh)) ?_
     refine rC da 2 rfl ?_
     refine dK ((zH b bl sz mo l d s B hl hB hm hok hkp).err hp) V.L9 rfl (ar (.cons bX (.cons dQ (.cons dQ .nil)))) ?_
     rintro _ _ ⟨hpe, rfl⟩
     refine (fC ?_)
     exact eA ((ab.vO hcs hk1 hk0).trans hp) hpe (sub (ar .nil) aw)
    ·have hcs : ¬ 0 < s.aB := by omega
     have hk1 : ¬ s.kind = -1 := by omega
     have hk0 : s.kind ≠ 0 := by omega
     have hkp : 0 < s.kind := by have := hok.kind; omega
     refine gr dI (fun h hh => zh hkp hh) ?_
     rintro ⟨l, d⟩ ⟨h1, h2⟩
     dsimp only at h1 h2
     subst h1
     subst h2
     simp only [List.cons_append, List.nil_append]
     refine bS (aV (.cons bX (.cons bX .nil)) .refl (fun w0 h hh => dz (s := s) rfl hh)) ?_
     refine rC da 2 rfl ?_
     refine ai ((zH b bl sz mo l d s B hl hB hm hok hkp).ok hp) V.L9  rfl (ar (.cons bX (.cons dQ (.cons dQ .nil)))) rfl ?_
     rintro _ _ ⟨rfl, rfl⟩
     refine rO da 2 rfl ?_
     exact iw ((ab.vO hcs hk1 hk0).trans hp) fI ⟨rfl, rfl⟩ (sub (ar .nil) aw)
   ·refine rC da 5 rfl ?_
    refine oV (ae V.s3 rfl an rfl) ?_
    refine rO da 4 rfl ?_
    refine aN rfl (fun h64 => ?_) (fun h64 => ?_)
    ·have hcs : ¬ 0 < s.aB := by omega
     have hk1 : ¬ s.kind = -1 := by omega
     have hk0 : s.kind = 0 := by omega
     have hl0 : s.left = 0 := by omega
     refine rC da 2 rfl ?_
     refine ai (yQ b bl sz mo po s.out.length co li di s) V.Lt  rfl (ar .nil) rfl ?_
     rintro _ _ ⟨rfl, rfl⟩
     refine rO da 2 rfl ?_
     exact iw (x := { s with kind := -1, ended := s.last }) (ab.th hcs hk1 hk0 hl0) fI ⟨rfl, rfl⟩ ((aV (bF .nil) .refl (fun w0 h hh => dz (s := { s with kind := -1, ended := s.last }) rfl hh)).trans (aV (bF .nil) cD (fun w0 h hh => ny (s := { s with kind := -1, ended := s.last }) (by show (-1 : Int) ≤ 0; decide) hh)))
    ·rcases (ab.KG B s.at_ mo { s with at_ := s.at_ + 8 } (aj.aT B s.at_ 8)) with hx | ⟨hx, e, hp⟩ | ⟨hx, s2, hp⟩
     ·refine rC da 1 rfl ?_
      have hcs : ¬ 0 < s.aB := by omega
      have hk1 : ¬ s.kind = -1 := by omega
      have hk0 : s.kind = 0 := by omega
      have hl0 : ¬ s.left = 0 := by omega
      refine rC da 5 rfl ?_
      refine oV (ae V.dV rfl an rfl) ?_
      refine dK (gA bl B s.at_ [] 0 8 hl hB (by omega) (by omega) (by omega)) V.fm rfl (.cons bX .nil) ?_
      rintro _ _ ⟨rfl, rfl⟩
      refine (dZ (fC ?_))
      exact eA (ab.w7 hcs hk1 hk0 hl0 hx) PE.end_ (aV (.cons ay .nil) n8 (fun w0 h hh => cU hh))
     ·refine rC da 1 rfl ?_
      have hcs : ¬ 0 < s.aB := by omega
      have hk1 : ¬ s.kind = -1 := by omega
      have hk0 : s.kind = 0 := by omega
      have hl0 : ¬ s.left = 0 := by omega
      refine rC da 5 rfl ?_
      refine oV (ae V.dV rfl an rfl) ?_
      refine ai (fP bl B s.at_ [] 0 8 hl hB (by omega) (by omega)) V.fm  rfl (.cons bX .nil) rfl ?_
      rintro _ _ ⟨rfl, rfl⟩
      refine oV (bg V.u3 Tryz.underlying5 rfl (kc (by omega) (by omega))) ?_
      refine dK ((oy b bl sz mo po co li di s (aj.aT B s.at_ 8) (by omega) hm).err (ab.Ku hp)) V.uZ rfl (.cons ay (.cons ay .nil)) ?_
      rintro _ _ ⟨hpe, rfl⟩
      refine (dZ (fC ?_))
      exact eA (ab.one_le hcs hk1 hk0 hl0 hx hp) hpe (sub (ar .nil) ie)
     ·refine rC da 1 rfl ?_
      have hcs : ¬ 0 < s.aB := by omega
      have hk1 : ¬ s.kind = -1 := by omega
      have hk0 : s.kind = 0 := by omega
      have hl0 : ¬ s.left = 0 := by omega
      refine rC da 5 rfl ?_
      refine oV (ae V.dV rfl an rfl) ?_
      refine ai (fP bl B s.at_ [] 0 8 hl hB (by omega) (by omega)) V.fm  rfl (.cons bX .nil) rfl ?_
      rintro _ _ ⟨rfl, rfl⟩
      refine oV (bg V.u3 Tryz.underlying5 rfl (kc (by omega) (by omega))) ?_
      refine ai ((oy b bl sz mo po co li di { s with at_ := s.at_ + 8 } (aj.aT B s.at_ 8) (by omega) hm).ok hp) V.uZ  rfl (.cons ay (.cons ay .nil)) rfl ?_
      rintro _ _ ⟨rfl, rfl⟩
      refine rO da 2 rfl ?_
      obtain ⟨hroom, rfl⟩ := ab.qS hp
      refine gr dQ (fun h hh => iS hh) ?_
      rintro ⟨po2, co2⟩ _
      dsimp only
      simp only [List.cons_append, List.nil_append]
      refine rC da 4 rfl ?_
      refine oV (ae V.s3 rfl an rfl) ?_
      refine cQ da 3 rfl (by omega) ?_
      refine aU (bZ V.s3 rfl rfl rfl (by exact cY) (by exact Nat.le_of_ble_eq_true rfl) rfl) ?_
      refine rO da 2 rfl ?_
      rw [show (s.left : Int) - 1 = ((s.left - 1 : Nat) : Int) from by omega]
      exact iw (x := { s with at_ := s.at_ + 8, left := s.left - 1, out := s.out ++ [(aj.aT B s.at_ 8)] }) (ab.CN hcs hk1 hk0 hl0 hx hroom) fI ⟨rfl, rfl⟩ ((aV (bF .nil) .refl (fun w0 h hh => dz (s := { s with at_ := s.at_ + 8, left := s.left - 1, out := s.out ++ [(aj.aT B s.at_ 8)] }) (by simp) hh)).trans (aV (bF .nil) cD (fun w0 h hh => ny (s := { s with at_ := s.at_ + 8, left := s.left - 1, out := s.out ++ [(aj.aT B s.at_ 8)] }) (by show s.kind ≤ 0; omega) hh)))
end Go.Proofs.YtmaiakpjgomnpaaGreat
namespace Go.Sl
section
variable {C : Ctx} {E : Env} {L : List ad} {ty : TypeId}
def qw (P : Program) (t : TypeId) : Bool := match P.underlying t with | some (.interface _) => true | _ => false
theorem xQ {t T : TypeId} {is : Array (String × TypeId)} {u : Value} (ht : C.P.underlying t = some (.interface is)) (d : Nat) (w : World) : (Op.equalIn (d + 1) t (.iface T u) .nilIface).run C.P w = .ok false w := by
  simp [Op.equalIn, run_underlying ht]
theorem yo {t : TypeId} {is : Array (String × TypeId)} (ht : C.P.underlying t = some (.interface is)) (d : Nat) (w : World) : (Op.equalIn (d + 1) t .nilIface .nilIface).run C.P w = .ok true w := by
  simp [Op.equalIn, run_underlying ht]
theorem ss {x y : Operand} {t t' T : TypeId} {u : Value} (ht : qw C.P t = true) (hx : aq E x = some (.iface T u)) (hy : aq E y = some .nilIface) : cF C (.binOp .eql t x y t') ty E L (.bool false) L :=
  dS fun d pos aft g a w ha => by
    unfold qw at ht
    split at ht <;> try simp at ht
    rename_i is hds
    rw [jx d pos aft g (ha.eval hx) (ha.eval hy) (by simp [eqGuard])]
    have h := xQ hds (T := T) (u := u) 9999 w
    simp only [binOp, Op.equal, Op.maxDepth, Sem.run_bind, h, Result.andThen_ok, Sem.run_pure]
theorem Ej {x : Operand} {t t' : TypeId} (ht : qw C.P t = true) (hx : aq E x = some .nilIface) : cF C (.binOp .eql t x (.const .nilIface) t') ty E L (.bool true) L :=
  dS fun d pos aft g a w ha => by
    unfold qw at ht
    split at ht <;> try simp at ht
    rename_i is hds
    rw [jx d pos aft g (ha.eval hx) (ha.eval (x := .const .nilIface) rfl) (by simp [eqGuard])]
    have h := yo hds 9999 w
    simp only [binOp, Op.equal, Op.maxDepth, Sem.run_bind, h, Result.andThen_ok, Sem.run_pure]
theorem uD {x : Operand} {xT T : TypeId} {u : Value} (hc : mN C.P T = true) (hx : aq E x = some (.iface T u)) : cF C (.typeAssert x xT T true) ty E L (.tuple #[u, .bool true]) L :=
  dS fun d pos aft g a w ha => by
    unfold mN at hc
    split at hc <;> try simp at hc
    rename_i ds hne hds
    simp only [execOp, ha.eval hx, Instr.typeAssert, Sem.run_bind, run_underlying hds, Result.andThen_ok]
    cases ds <;> first | (exact absurd rfl (hne _)) | simp [Sem.run_pure]
theorem uW {x : Operand} {xT T t : TypeId} {u z : Value} (hc : mN C.P T = true) (hz : (C.P.info? T).bind (·.zero) = some z) (hn : t ≠ T) (hx : aq E x = some (.iface t u)) : cF C (.typeAssert x xT T true) ty E L (.tuple #[z, .bool false]) L :=
  dS fun d pos aft g a w ha => by
    unfold mN at hc
    split at hc <;> try simp at hc
    rename_i ds hne hds
    obtain ⟨i, hi, hz⟩ : ∃ i, C.P.info? T = some i ∧ i.zero = some z := by
      cases h : C.P.info? T with
      | none => rw [h] at hz; cases hz
      | some i => rw [h] at hz; exact ⟨i, rfl, hz⟩
    have hzv : (zeroValue T).run C.P w = .ok z w := by simp only [zeroValue, typeInfo, Sem.run_bind, run_program, Result.andThen_ok, hi, Sem.run_pure, hz]
    simp only [execOp, ha.eval hx, Instr.typeAssert, Sem.run_bind, run_underlying hds, Result.andThen_ok]
    cases ds <;> first | (exact absurd rfl (hne _)) | simp [Sem.run_pure, hn, hzv]
end
theorem vZ {C : Ctx} {c : Code} {Q : Exit → Act → List Frame → World → Prop} {a : Act} {cs : List Frame} {w : World} {E : Env} {L : List ad} (ha : gl C E a) (hi : Inv C.w0 L w) (h : Wp C c (qr C fun e a w => Q e a cs w) E L) : c.wpS C.P Q a cs w := wpS_of_wp (Hj h a w ha hi)
theorem Dj {P : Program} {w0 : World} {X : List PanicEntry → List ad → Prop} (x y : Value) : gl ⟨P, w0, 19, [], X⟩ [(6, y), (0, x)] { tmps := #[x] ++ (Array.replicate 18 undef).setIfInBounds 5 y, defers := [] } := by
  refine ⟨rfl, by simp, fun d v hd => ?_⟩
  rw [Env.jl] at hd
  split at hd
  · rename_i h; subst h; cases hd; simp
  · rw [Env.jl] at hd
    split at hd
    · rename_i h; subst h; cases hd; simp
    · simp [Env.get] at hd
end Go.Sl
namespace Go.Sl
theorem aG.RM {P : Program} {f : FuncId} {args : List Value} {Pre : List ad} {v0 : Value} {R : List ad → Prop} (h : aG P f args Pre (aQ fun v G => v = v0 ∧ R G)) : aG P f args Pre (aQ fun _ G => R G) := h.mono fun e G h => by
  rcases h with ⟨v, rfl, _, h⟩; exact ⟨v, rfl, h⟩
end Go.Sl
namespace Go.Proofs.YtmaiakpjgomnpaaGreat
open Go.Sl 
theorem RY : dU Tryz.prog ⟨[], []⟩ = true := by kernel_rfl
theorem V.Av : qw Tryz.prog 20 = true := by kernel_rfl
theorem V.GO : (Tryz.prog.info? 194).bind (·.zero) = some (.agg #[]) := by kernel_rfl
theorem V.OF : (Tryz.prog.info? 237).bind (·.zero) = some (.agg #[]) := by kernel_rfl
theorem qn : ∀ (A M : List ad), fJ (A ++ M) A M
  | [], M => .nil
  | a :: A, M => .cons .head (qn A M)
theorem Cg {w0 : World} {L : List ad} (b : Nat) (x e : Int) (t : TypeId) (pv : Value) (hp : PE e (ku t pv)) (older : List PanicEntry) (w : World) (hi : Inv w0 (ao b 27 [.int .i64 x] :: L) w) :
    CallsD Tryz.prog 178 #[.pointer (some ⟨b, 0, none⟩)] (.panicking ({ v := .iface t pv, recovered := false } :: older)) w fun e' u' w' =>
      e' = .returned (.tuple #[]) ∧ u' = .panicking ({ v := .iface t pv, recovered := true } :: older) ∧ Inv w0 (ao b 27 [.int .i64 e] :: L) w' := by
  refine callsD_of_wpS Tryz.func178 rfl fun c₀ cs hu => ?_
  apply wpS_seq
  apply wpS_region
  simp [wpOpsS, go_sem, recoverD, hu, Tryz.ntmps178, Exit.thenS]
  refine vZ (C := ⟨Tryz.prog, w0, 19, [], fun _ _ => True⟩) (E := [(6, .iface t pv), (0, .pointer (some ⟨b, 0, none⟩))]) (Dj _ _) hi ?_
  rcases hp with ⟨h, rfl⟩ | ⟨h, rfl⟩ | ⟨h, _⟩
  · simp only [ku, List.cons.injEq, PanicEntry.mk.injEq, Value.iface.injEq, and_true] at h
    obtain ⟨rfl, rfl⟩ := h
    refine n6 ?_
    refine jN (bK ?_)
    refine oV (ss V.Av rfl rfl) ?_
    refine cW ?_
    refine bN ?_
    refine lZ rfl ?_
    refine jN (bK ?_)
    refine oV (uD V.As rfl) ?_
    iterate 2 refine oV (fz rfl rfl) ?_
    refine cW ?_
    refine bN ?_
    refine oC rfl ?_
    refine jN (bK ?_)
    refine cC V.z194 rfl ?_
    intro bz
    refine aU (aF V.a194 rfl rfl (us := []) rfl rfl .head (by exact Nat.le_of_ble_eq_true rfl) rfl) ?_
    refine cW ?_
    refine bN ?_
    refine bK ?_
    refine aU (bZ V.rJ rfl rfl rfl (.tail .head) (by exact Nat.le_of_ble_eq_true rfl) rfl) ?_
    refine cW ?_
    refine kC ?_
    intro a w ha hi
    exact ⟨ha.defers, _, rfl, .tuple #[], by simp [results, Tryz.results178], rfl, rfl, hi.tail⟩
  · simp only [ku, List.cons.injEq, PanicEntry.mk.injEq, Value.iface.injEq, and_true] at h
    obtain ⟨rfl, rfl⟩ := h
    refine n6 ?_
    refine jN (bK ?_)
    refine oV (ss V.Av rfl rfl) ?_
    refine cW ?_
    refine bN ?_
    refine lZ rfl ?_
    refine jN (bK ?_)
    refine oV (uW V.As V.GO (by decide) rfl) ?_
    iterate 2 refine oV (fz rfl rfl) ?_
    refine cW ?_
    refine bN ?_
    refine lZ rfl ?_
    refine jN (bK ?_)
    refine oV (uD V.DZ rfl) ?_
    iterate 2 refine oV (fz rfl rfl) ?_
    refine cW ?_
    refine bN ?_
    refine oC rfl ?_
    refine jN (bK ?_)
    refine cC V.LC rfl ?_
    intro bz
    refine aU (aF V.QG rfl rfl (us := []) rfl rfl .head (by exact Nat.le_of_ble_eq_true rfl) rfl) ?_
    refine cW ?_
    refine bN ?_
    refine bK ?_
    refine aU (bZ V.rJ rfl rfl rfl (.tail .head) (by exact Nat.le_of_ble_eq_true rfl) rfl) ?_
    refine cW ?_
    refine kC ?_
    intro a w ha hi
    exact ⟨ha.defers, _, rfl, .tuple #[], by simp [results, Tryz.results178], rfl, rfl, hi.tail⟩
  · simp only [ku, List.cons.injEq, PanicEntry.mk.injEq, Value.iface.injEq, and_true] at h
    obtain ⟨rfl, rfl⟩ := h
    refine n6 ?_
    refine jN (bK ?_)
    refine oV (ss V.Av rfl rfl) ?_
    refine cW ?_
    refine bN ?_
    refine lZ rfl ?_
    refine jN (bK ?_)
    refine oV (uW V.As V.GO (by decide) rfl) ?_
    iterate 2 refine oV (fz rfl rfl) ?_
    refine cW ?_
    refine bN ?_
    refine lZ rfl ?_
    refine jN (bK ?_)
    refine oV (uW V.DZ V.OF (by decide) rfl) ?_
    iterate 2 refine oV (fz rfl rfl) ?_
    refine cW ?_
    refine bN ?_
    refine lZ rfl ?_
    refine jN (bK ?_)
    refine oV (uD V.C9 rfl) ?_
    iterate 2 refine oV (fz rfl rfl) ?_
    refine cW ?_
    refine bN ?_
    refine oC rfl ?_
    refine jN (bK ?_)
    refine oV (eZ rfl) ?_
    refine cW ?_
    refine bN ?_
    refine bK ?_
    refine oV (aK rfl) ?_
    refine aU (bZ V.rJ rfl rfl rfl .head (by exact Nat.le_of_ble_eq_true rfl) rfl) ?_
    refine cW ?_
    refine kC ?_
    intro a w ha hi
    exact ⟨ha.defers, _, rfl, .tuple #[], by simp [results, Tryz.results178], rfl, rfl, hi⟩
theorem A7 {w0 : World} {L : List ad} (b : Nat) (w : World) (hi : Inv w0 L w) :
    CallsD Tryz.prog 178 #[.pointer (some ⟨b, 0, none⟩)] .returning w fun e u' w' => e = .returned (.tuple #[]) ∧ u' = .returning ∧ Inv w0 L w' := by
  refine callsD_of_wpS Tryz.func178 rfl fun c₀ cs hu => ?_
  apply wpS_seq
  apply wpS_region
  simp [wpOpsS, go_sem, recoverD, hu, Tryz.ntmps178, Exit.thenS]
  refine vZ (C := ⟨Tryz.prog, w0, 19, [], fun _ _ => True⟩) (E := [(6, .nilIface), (0, .pointer (some ⟨b, 0, none⟩))]) (Dj _ _) hi ?_
  refine n6 ?_
  refine jN (bK ?_)
  refine oV (Ej V.Av rfl) ?_
  refine cW ?_
  refine bN ?_
  refine oC rfl ?_
  refine bK ?_
  refine oV (eZ rfl) ?_
  refine cW ?_
  refine kC ?_
  intro a w ha hi
  cases c₀
  exact ⟨ha.defers, _, by simp_all, .tuple #[], by simp [results, Tryz.results178], rfl, rfl, hi⟩
theorem vd {C : Ctx} {a : Act} {E : Env} {L : List ad} {w : World} {b : Nat} {x : Int} (hP : C.P = Tryz.prog) (ha : gl C E a) (ht : E.get 2 = some (.pointer (some ⟨b, 0, none⟩))) (hi : Inv C.w0 (ao b 27 [.int .i64 x] :: L) w) :
    (results Tryz.f167 a.tmps).run Tryz.prog w = .ok (.int .i64 x) w := by
  have h1 := ha.get _ _ ht
  have h2 := hi.ji 0
  simp only [List.getElem?_cons_zero] at h2
  simp [results, Tryz.results167, h1, go_sem, h2]
theorem EH {f : FuncId} {cs : List Value} {Pre : List ad} {R : List ad → Prop} (hS : aG Tryz.prog f cs Pre (aQ fun _ G => R G)) (hb : aH Tryz.prog f = true) :
    aG Tryz.prog 167 [.func (.func f) #[] cs.toArray] Pre (aQ fun v G => v = .int .i64 0 ∧ R G) := by
  refine xY [(0, _)] Tryz.func167 rfl Tryz.ntmps167 rfl rfl ?_
  intro w0 F
  refine qm (bK ?_)
  refine cC V.O8 rfl ?_
  intro b2
  refine cW ?_
  refine bN ?_
  refine xr (caps := [.tmp 2]) rfl rfl ?_
  refine qm ?_
  refine bK ?_
  refine oV (aK rfl) ?_
  refine tu (L' := Pre ++ (ao b2 27 [.int .i64 0] :: F)) List.perm_middle.symm ?_
  refine Ie (fs := []) (vs := []) (cs := cs) hS hb rfl rfl (qn _ _) rfl ?_
  intro v G hR
  refine cW ?_
  refine bN ?_
  refine qm ?_
  refine bK ?_
  refine tu (L' := ao b2 27 [.int .i64 0] :: (G ++ F)) List.perm_middle ?_
  refine aU (bZ V.rJ rfl rfl rfl .head (by exact Nat.le_of_ble_eq_true rfl) rfl) ?_
  refine cW ?_
  refine bN ?_
  refine Hj (GG ?_)
  intro a w ha hi
  show Leaves _ _ _ _ a.defers _ _
  rw [ha.defers]
  refine leaves_cons (f := 178) (args := #[.pointer (some ⟨b2, 0, none⟩)]) (by simp) ?_ ?_
  · simp [invoke, gS V.KZ]
  refine (A7 b2 w hi).mono ?_
  rintro e u' w' ⟨rfl, rfl, hi⟩
  exact ⟨.int .i64 0, vd rfl ha rfl hi, G, hi.tail, _, rfl, rfl, hR⟩
theorem EY {f : FuncId} {cs : List Value} {Pre : List ad} {e : Int} {R : List ad → Prop} (hS : aG Tryz.prog f cs Pre (rG fun ch G => PE e ch ∧ R G)) (hb : aH Tryz.prog f = true) :
    aG Tryz.prog 167 [.func (.func f) #[] cs.toArray] Pre (aQ fun v G => v = .int .i64 e ∧ R G) := by
  refine xY [(0, _)] Tryz.func167 rfl Tryz.ntmps167 rfl rfl ?_
  intro w0 F
  refine qm (bK ?_)
  refine cC V.O8 rfl ?_
  intro b2
  refine cW ?_
  refine bN ?_
  refine xr (caps := [.tmp 2]) rfl rfl ?_
  refine qm ?_
  refine bK ?_
  refine oV (aK rfl) ?_
  refine tu (L' := Pre ++ (ao b2 27 [.int .i64 0] :: F)) List.perm_middle.symm ?_
  refine Fg (fs := []) (vs := []) (cs := cs) hS hb rfl rfl (qn _ _) ?_
  rintro ch G ⟨hp, hR⟩
  refine dZ ?_
  intro a w ha hi
  show Leaves _ _ _ _ a.defers _ _
  rw [ha.defers]
  have hi2 : Inv w0 (ao b2 27 [.int .i64 0] :: (G ++ F)) w := hi.perm List.perm_middle
  refine leaves_cons (f := 178) (args := #[.pointer (some ⟨b2, 0, none⟩)]) (by simp) ?_ ?_
  · simp [invoke, gS V.KZ]
  obtain ⟨t, u, rfl⟩ : ∃ t u, ch = ku t u := by
    rcases hp with ⟨h, _⟩ | ⟨h, _⟩ | ⟨h, _⟩ <;> exact ⟨_, _, h⟩
  refine (Cg b2 0 e t u hp [] w hi2).mono ?_
  rintro e' u' w' ⟨rfl, rfl, hi3⟩
  exact ⟨.int .i64 e, vd rfl ha rfl hi3, G, hi3.tail, _, rfl, rfl, hR⟩
end Go.Proofs.YtmaiakpjgomnpaaGreat
namespace Go.Proofs.YtmaiakpjgomnpaaGreat
open Go.Sl 
theorem o7 : dU Tryz.prog ⟨[], []⟩ = true := by kernel_rfl
attribute [local irreducible] af.cg af.tk af.ord af.cM af.words af.dj ab.iK ab.dg ab.dE ab.ew ab.hL ab.hD ab.hC ab.fF ab.told ab.ga ab.ju ab.rep ab.fw ab.eI ab.sym ab.dN aj.aT ab.fa ab.dT ab.one ab.eY
theorem jY {b bl : Nat} {sz mo : Int} {B : List Int} {s : ab.St} {w0 : World} {h : Hp} (hh : MM b bl sz mo B s w0 h) : ∃ i : Pv, True ∧ dk w0 [MS b bl sz mo i.li i.di s, LW bl B s.at_ [] 0, CD i.li i.di s] h := hh
def MD (b bl : Nat) (sz mo e : Int) : ad := fun w0 h => ∃ i : Vx, True ∧ dk w0 [ao b 223 [.pointer (some ⟨bl, 0, none⟩), .int .i64 sz, .int .i64 mo, .slice none 0 0, .bool true, .int .i64 e, i.v6, i.v7, i.v8, i.v9, i.v10, i.v11, i.v12]] h
theorem km {b bl : Nat} {sz mo e : Int} {v6 v7 v8 v9 v10 v11 v12 : Value} {w0 : World} {h : Hp}
  (hh : dk w0 [ao b 223 [.pointer (some ⟨bl, 0, none⟩), .int .i64 sz, .int .i64 mo, .slice none 0 0, .bool true, .int .i64 e, v6, v7, v8, v9, v10, v11, v12]] h) : MD b bl sz mo e w0 h := ⟨⟨.nilFunc, .nilFunc, .nilFunc, v6, v7, v8, v9, v10, v11, v12⟩, trivial, hh⟩
def MJ (b bl : Nat) (sz mo : Int) (B : List Int) : ab.Jt → ad
 | .ok s => MM b bl sz mo B s
 | .error e => MD b bl sz mo e
set_option maxHeartbeats 2000000 in
theorem zM (bm bw bn b bl : Nat) (sz mo : Int) (w : Nat) (n : Int) (s0 : ab.St) (o : Except Int ab.St) (B : List Int) (hl : B.length < 500000000) (hB : aj.au B) (hm : mo < 1000000000) (hw : w < 1000000000) (hok0 : ab.Ok B mo s0) (hlp0 : ab.Lp B mo w n s0 o) : aG Tryz.prog 168 [.pointer (some ⟨bm, 0, none⟩), .pointer (some ⟨bw, 0, none⟩), .pointer (some ⟨bn, 0, none⟩)] [ao bm 204 [.pointer (some ⟨b, 0, none⟩)], ao bw 3 [.int .i64 (w : Int)], ao bn 3 [.int .i64 n], MM b bl sz mo B s0] (iF o (fun s2 v G => v = .tuple #[] ∧ G = [ao bm 204 [.pointer (some ⟨b, 0, none⟩)], ao bw 3 [.int .i64 (w : Int)], ao bn 3 [.int .i64 n], MM b bl sz mo B s2]) [ao bm 204 [.pointer (some ⟨b, 0, none⟩)], ao bw 3 [.int .i64 (w : Int)], ao bn 3 [.int .i64 n], MX b bl sz mo]) := by
 refine av [(0, _), (1, _), (2, _)] Tryz.func168 rfl Tryz.ntmps168 rfl rfl ?_
 intro w0 F
 refine rT o7 1 rfl ?_
 refine eb (fun (s : ab.St) => [(0, .pointer (some ⟨bm, 0, none⟩)), (1, .pointer (some ⟨bw, 0, none⟩)), (2, .pointer (some ⟨bn, 0, none⟩))]) (fun (s : ab.St) => MM b bl sz mo B s :: ao bm 204 [.pointer (some ⟨b, 0, none⟩)] :: ao bw 3 [.int .i64 (w : Int)] :: ao bn 3 [.int .i64 n] :: F) (fun (s : ab.St) => ab.Ok B mo s ∧ ab.Lp B mo w n s o) (fun (s : ab.St) => ab.mu B s) (i1 (s0) ?_ (js ln) (sub (.cons dI (gm .nil)) aw)) ?_
 ·exact ⟨hok0, hlp0⟩
 intro s
 rintro ⟨hok, hlp⟩
 rcases (Bool.eq_false_or_eq_true s.ended) with he | he
 ·refine rL o7 2 rfl ?_
  have hro := hok.room
  refine gr dQ (fun h hh => jY hh) ?_
  rintro ⟨li, di⟩ _
  dsimp only
  simp only [List.cons_append, List.nil_append]
  refine gD (fun h hh => iS hh) ?_
  rintro ⟨po, co⟩ _
  dsimp only
  simp only [List.cons_append, List.nil_append]
  refine wN [pz 0 [] [0], pz 1 [0] [], pz 3 [1] [], pz 7 [2] [], pz 15 [3] [], pz 31 [4] [], pz 63 [5] [0], pz 127 [6, 5] [], pz 255 [7, 5] [], pz 511 [8, 5] [], pz 1023 [9, 5] [], pz 63 [5] [1], pz 4095 [10, 11, 5] [], pz 63 [5] [2], pz 16383 [12, 13, 5] [], pz 32767 [5, 14] []] [⟨fun y => ao b 223 [.pointer (some ⟨bl, 0, none⟩), .int .i64 sz, .int .i64 mo, .slice po s.out.length co, .bool s.ended, .int .i64 0, .int .i64 s.kind, .int .i64 (s.left : Int), .bool s.last, li, di, .int .i64 (s.aB : Int), .int .i64 (s.cE : Int)], none, none, [3]⟩, ⟨fun y => Row U5 po s.out.length co s.out, none, none, []⟩, ⟨fun y => LW bl B s.at_ [] 0, none, none, []⟩, ⟨fun y => CD li di s, none, none, []⟩, ⟨fun y => ao bm 204 [.pointer (some ⟨b, 0, none⟩)], none, none, [0]⟩, ⟨fun y => ao bw 3 [.int .i64 (w : Int)], none, none, []⟩, ⟨fun y => ao bn 3 [.int .i64 n], none, none, []⟩] F V.mixed ?_
  refine nR (fun y FF hA => ae V.gQ rfl an rfl) ?_
  refine nN ?_
  refine nG V.wO ?_
  refine nR (fun y FF hA => cK (v := .bool true) (ae V.s4 rfl an rfl) (by rw [he])) ?_
  refine nV (fun y hA L => cK (v := .bool false) (mL rfl) rfl) ?_
  refine nM ?_
  refine bU _ (fun y => rfl) rfl rfl rfl (fun y hA L => eW rfl rfl ⟨rfl, rfl⟩) (by intros; rfl) (by intro y y2 h; rfl) ?_
  refine bU _ (fun y => rfl) rfl rfl rfl (fun y hA L => eW rfl rfl ⟨rfl, rfl⟩) (by intros; rfl) (by intro y y2 h; rfl) ?_
  refine bU _ (fun y => rfl) rfl rfl rfl (fun y hA L => eW rfl rfl ⟨rfl, rfl⟩) (by intros; rfl) (by intro y y2 h; rfl) ?_
  refine bU _ (fun y => rfl) rfl rfl rfl (fun y hA L => eW rfl rfl ⟨rfl, rfl⟩) (by intros; rfl) (by intro y y2 h; rfl) ?_
  refine bU _ (fun y => rfl) rfl rfl rfl (fun y hA L => eW rfl rfl ⟨rfl, rfl⟩) (by intros; rfl) (by intro y y2 h; rfl) ?_
  refine bU _ (fun y => rfl) rfl rfl rfl (fun y hA L => eW rfl rfl ⟨rfl, rfl⟩) (by intros; rfl) (by intro y y2 h; rfl) ?_
  refine bU _ (fun y => rfl) rfl rfl rfl (fun y hA L => eW rfl rfl ⟨rfl, rfl⟩) (by intros; rfl) (by intro y y2 h; rfl) ?_
  refine bU _ (fun y => rfl) rfl rfl rfl (fun y hA L => eW rfl rfl ⟨rfl, rfl⟩) (by intros; rfl) (by intro y y2 h; rfl) ?_
  refine bU _ (fun y => rfl) rfl rfl rfl (fun y hA L => eW rfl rfl ⟨rfl, rfl⟩) (by intros; rfl) (by intro y y2 h; rfl) ?_
  refine nV (fun y hA L => ur rfl rfl) ?_
  refine aX ?_
  intro y hA
  clear hA
  refine bN ?_
  refine cu _ (.cons (d := 0) rfl (.cons (d := 1) rfl (.cons (d := 2) rfl (.cons (d := 18) rfl (.nil _))))) ?_
  refine bS (M := ao b 223 [.pointer (some ⟨bl, 0, none⟩), .int .i64 sz, .int .i64 mo, .slice po s.out.length co, .bool s.ended, .int .i64 0, .int .i64 s.kind, .int .i64 (s.left : Int), .bool s.last, li, di, .int .i64 (s.aB : Int), .int .i64 (s.cE : Int)] :: Row U5 po s.out.length co s.out :: LW bl B s.at_ [] 0 :: CD li di s :: ao bm 204 [.pointer (some ⟨b, 0, none⟩)] :: ao bw 3 [.int .i64 (w : Int)] :: ao bn 3 [.int .i64 n] :: F) (fun _ _ h => h) ?_
  refine rC o7 5 rfl ?_
  refine (fun hs => iw (x := s) (ab.Gl hlp (by exact .inl he)) fI ⟨rfl, rfl⟩ (Sl.Sub.trans ((aV (bF .nil) .refl (fun w0 h hh => dz (s := s) rfl hh)).trans (aV (gm .nil) .refl (fun w0 h hh => fx (s := s) hh))) hs)) (sub (.cons ay (.cons ay (.cons ay (ar .nil)))) aw)
 ·refine rL o7 2 rfl ?_
  have hro := hok.room
  refine gr dQ (fun h hh => jY hh) ?_
  rintro ⟨li, di⟩ _
  dsimp only
  simp only [List.cons_append, List.nil_append]
  refine gD (fun h hh => iS hh) ?_
  rintro ⟨po, co⟩ _
  dsimp only
  simp only [List.cons_append, List.nil_append]
  refine wN [pz 0 [] [0], pz 1 [0] [], pz 3 [1] [], pz 7 [2] [], pz 15 [3] [], pz 31 [4] [], pz 63 [5] [0], pz 127 [6, 5] [], pz 255 [7, 5] [], pz 511 [8, 5] [], pz 1023 [9, 5] [], pz 63 [5] [1], pz 4095 [10, 11, 5] [], pz 63 [5] [2], pz 16383 [12, 13, 5] [], pz 32767 [5, 14] []] [⟨fun y => ao b 223 [.pointer (some ⟨bl, 0, none⟩), .int .i64 sz, .int .i64 mo, .slice po s.out.length co, .bool s.ended, .int .i64 0, .int .i64 s.kind, .int .i64 (s.left : Int), .bool s.last, li, di, .int .i64 (s.aB : Int), .int .i64 (s.cE : Int)], none, none, [3, 9]⟩, ⟨fun y => Row U5 po s.out.length co s.out, none, none, []⟩, ⟨fun y => LW bl B s.at_ [] 0, none, none, []⟩, ⟨fun y => CD li di s, none, none, []⟩, ⟨fun y => ao bm 204 [.pointer (some ⟨b, 0, none⟩)], none, none, [0, 6]⟩, ⟨fun y => ao bw 3 [.int .i64 (w : Int)], none, none, [11]⟩, ⟨fun y => ao bn 3 [.int .i64 n], none, none, [13]⟩] F V.mixed ?_
  refine nR (fun y FF hA => ae V.gQ rfl an rfl) ?_
  refine nN ?_
  refine nG V.wO ?_
  refine nR (fun y FF hA => cK (v := .bool false) (ae V.s4 rfl an rfl) (by rw [he])) ?_
  refine nV (fun y hA L => cK (v := .bool true) (mL rfl) rfl) ?_
  refine nM ?_
  refine jM _ _ (fun y => rfl) rfl (fun y => rfl) rfl (fun y FF hA => eX rfl (dC (ae V.gQ rfl an rfl) ⟨rfl, rfl⟩)) (by intros; rfl) (by intro y y2 h; rfl) ?_
  refine bU _ (fun y => rfl) rfl rfl rfl (fun y hA L => eX rfl (dC (Az rfl) ⟨rfl, rfl⟩)) (by intros; rfl) (by intro y y2 h; rfl) ?_
  refine bU _ (fun y => rfl) rfl rfl rfl (fun y hA L => eX rfl (dC (aE V.kP rfl) ⟨rfl, rfl⟩)) (by intros; rfl) (by intro y y2 h; rfl) ?_
  refine jM _ _ (fun y => rfl) rfl (fun y => rfl) rfl (fun y FF hA => eX rfl (dC (ae V.eC rfl an rfl) ⟨rfl, rfl⟩)) (by intros; rfl) (by intro y y2 h; rfl) ?_
  refine bU _ (fun y => rfl) rfl rfl rfl (fun y hA L => eX rfl (dC (ez (ty' := 0) Tryz.underlying22 rfl) ⟨rfl, rfl⟩)) (by intros; rfl) (by intro y y2 h; rfl) ?_
  refine jM _ _ (fun y => rfl) rfl (fun y => rfl) rfl (fun y FF hA => eX rfl (dC (ae V.s3 rfl an rfl) ⟨rfl, rfl⟩)) (by intros; rfl) (by intro y y2 h; rfl) ?_
  refine bU _ (fun y => rfl) rfl rfl rfl (fun y hA L => eX rfl (dC (fT rfl rfl wI) ⟨rfl, rfl⟩)) (by intros; rfl) (by intro y y2 h; rfl) ?_
  refine jM _ _ (fun y => rfl) rfl (fun y => rfl) rfl (fun y FF hA => eX rfl (dC (ae V.s3 rfl an rfl) ⟨rfl, rfl⟩)) (by intros; rfl) (by intro y y2 h; rfl) ?_
  refine bU _ (fun y => rfl) rfl rfl rfl (fun y hA L => eX rfl (dC (bu rfl rfl) ⟨rfl, rfl⟩)) (by intros; rfl) (by intro y y2 h; rfl) ?_
  refine nV (fun y hA L => ow rfl rfl) ?_
  refine aX ?_
  intro y hA
  clear hA
  refine bN ?_
  refine cu _ (.cons (d := 0) rfl (.cons (d := 1) rfl (.cons (d := 2) rfl (.cons (d := 18) rfl (.nil _))))) ?_
  refine bS (M := ao b 223 [.pointer (some ⟨bl, 0, none⟩), .int .i64 sz, .int .i64 mo, .slice po s.out.length co, .bool s.ended, .int .i64 0, .int .i64 s.kind, .int .i64 (s.left : Int), .bool s.last, li, di, .int .i64 (s.aB : Int), .int .i64 (s.cE : Int)] :: Row U5 po s.out.length co s.out :: LW bl B s.at_ [] 0 :: CD li di s :: ao bm 204 [.pointer (some ⟨b, 0, none⟩)] :: ao bw 3 [.int .i64 (w : Int)] :: ao bn 3 [.int .i64 n] :: F) (fun _ _ h => h) ?_
  refine aN rfl (fun h18 => ?_) (fun h18 => ?_)
  ·refine rC o7 3 rfl ?_
   rcases (ab.gI (ab.one B mo s)) with ⟨e, hp⟩ | ⟨s2, hp⟩
   ·refine bS ((aV (bF .nil) .refl (fun w0 h hh => dz (s := s) rfl hh)).trans (aV (gm .nil) .refl (fun w0 h hh => fx (s := s) hh))) ?_
    refine bK ?_
    refine oV (ae V.gQ rfl bW rfl) ?_
    refine dK ((GI b bl sz mo s B hl hB hm hok).err hp) V.Lr rfl (ar .nil) ?_
    rintro _ _ ⟨hpe, rfl⟩
    refine (fC (dZ (fC ?_)))
    exact eA (ab.OA hlp he (by omega) hp) hpe (sub (.cons ay (.cons ay (.cons ay (ar .nil)))) aw)
   ·refine bS ((aV (bF .nil) .refl (fun w0 h hh => dz (s := s) rfl hh)).trans (aV (gm .nil) .refl (fun w0 h hh => fx (s := s) hh))) ?_
    have hg := ab.lW hB hok hp
    refine bK ?_
    refine oV (ae V.gQ rfl bW rfl) ?_
    refine ai ((GI b bl sz mo s B hl hB hm hok).ok hp) V.Lr  rfl (ar .nil) rfl ?_
    rintro _ _ ⟨rfl, rfl⟩
    refine rO o7 2 rfl ?_
    refine j1 (s2) ?_ (js ln) (sub (nH .nil) aw)
    exact ⟨⟨hg.ok, ab.Oe hlp he (by omega) hp⟩, hg.less⟩
  ·refine rC o7 4 rfl ?_
   refine (fun hs => iw (x := s) (ab.Gl hlp (by exact .inr (by omega))) fI ⟨rfl, rfl⟩ (Sl.Sub.trans ((aV (bF .nil) .refl (fun w0 h hh => dz (s := s) rfl hh)).trans (aV (gm .nil) .refl (fun w0 h hh => fx (s := s) hh))) hs)) (sub (.cons ay (.cons ay (.cons ay (ar .nil)))) aw)
end Go.Proofs.YtmaiakpjgomnpaaGreat

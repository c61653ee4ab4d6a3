/- Walks of functions that the law reaches, and what they lean on; no conditions. -/
import Derived.Test.YtmaiakpjgomnpaaGreatM1
import Derived.KernelRfl
import Derived.Test.YtmaiakpjgomnpaaGreatM4
import Derived.Test.YtmaiakpjgomnpaaGreatM2
set_option linter.unusedVariables false
set_option linter.unusedSimpArgs false
set_option maxRecDepth 100000
namespace Go.Proofs.YtmaiakpjgomnpaaGreat
open Go.Sl 
theorem iQ : dR Tryz.prog ⟨[47], [(231, 0, 0), (231, 1, 16), (275, 1, 1), (275, 2, 17), (275, 3, 18)]⟩ = true := by kernel_rfl
attribute [local irreducible] af.ord af.iS af.dL af.cK af.c9 af.words af.fS af.lenOf af.bU af.gH af.wd af.me af.kv af.ot af.cls af.off af.tk
set_option maxHeartbeats 2000000 in
theorem Kw (b : Nat) (ls : List Int) (b2 : Nat) (B : List Int) (at_ : Nat) (out : List Int) (free : Int) (hE : af.bU ls = 0) (hl : B.length < 500000000) (hB : aj.av B) (ha : at_ ≤ 8 * B.length) : aE Tryz.prog 201 [.pointer (some ⟨b, 0, none⟩), .pointer (some ⟨b2, 0, none⟩)] [HC b ls, LW b2 B at_ out free] (sQ (fun v G => ∃ n s, af.tk ls B at_ = .uK n s ∧ v = .int .i64 s ∧ G = [HC b ls, LW b2 B (at_ + n) out free]) (fun ch G => (∃ n, af.tk ls B at_ = .short n ∧ ch = ka 194 (.agg #[]) ∧ G = [HC b ls, LW b2 B (at_ + n) out free]) ∨ (∃ n, af.tk ls B at_ = .none_ n ∧ ch = ka 237 (.agg #[]) ∧ G = [HC b ls, LW b2 B (at_ + n) out free]))) := by
 refine au [(0, _), (1, _)] Tryz.func201 rfl Tryz.ntmps201 rfl rfl ?_
 intro w0 F
 have hV := (af.lH hE).1
 have hW := (af.lH hE).2
 have hcl := af.kg ls
 have hCb := af.o0 hV.1
 have hm15 := af.Iv hV
 have hme := af.K2 ls
 refine gC (fun h hh => hh) ?_
 rintro ⟨p1, c1, p2, c2⟩ _
 dsimp only
 rw [hme]
 refine rT iQ 19 rfl ?_
 rw [show ((7 : Nat), Value.int .i64 0) = (7, .int .i64 (af.off ls (0 + 1) : Int)) from by unfold af.off; rfl]
 refine dX (fun (m : Nat) => [(0, .pointer (some ⟨b, 0, none⟩)), (1, .pointer (some ⟨b2, 0, none⟩)), (5, .int .i64 (aj.acc B at_ m)), (6, .int .i64 (af.base ls m + af.cnt ls m)), (7, .int .i64 (af.off ls (m + 1) : Int)), (8, .int .i64 ((m : Int) + 1))]) (fun (m : Nat) => ao b 275 (CA [.slice p1 ls.length c1] .i64 (af.cK ls) [.slice p2 (af.ord ls).length c2, .int .i64 (af.kW ls : Int)]) :: Row pN p1 ls.length c1 (af.words ls) :: Row I3 p2 (af.ord ls).length c2 (af.ord ls) :: LW b2 B (at_ + m) out free :: F) (fun (m : Nat) => af.Tk ls B at_ m) (fun (m : Nat) => af.kW ls - m) (i1 (0) ?_ (kJ (dp ln)) (sub (ny .nil) aw)) ?_
 ·exact af.Eo ha
 intro m
 rintro ht
 have htl := ht.le
 refine rL iQ 7 rfl ?_
 refine oV (lI (n := 16) 1 V.s3 rfl an (by omega) rfl rfl) ?_
 refine rO iQ 3 rfl ?_
 refine aN rfl (fun h14 => ?_) (fun h14 => ?_)
 ·have hcn := af.JZ (ls := ls) (m := m) (by omega)
  have hbf := af.zh hW (n := m + 1) (by omega)
  have hbn := af.qF ls (m + 1)
  have hc1 := af.iU ls (m + 1)
  have hof := af.Bj hV (m := m) (by omega)
  have hac := aj.pG B at_ (m + 1)
  have hac0 := aj.pG B at_ m
  have hp15 := af.pB (show m + 1 ≤ 15 by omega)
  have hp14 := af.pB (show m ≤ 15 by omega)
  have hb := aj.mJ B (at_ + m)
  have hnn := ht.nn
  refine rC iQ 4 rfl ?_
  rcases (Nat.lt_or_ge (at_ + m) (8 * B.length)) with hx | hx
  ·refine rC iQ 3 rfl ?_
   refine oV (fX (r := 2 * aj.acc B at_ m) rfl rfl (by decide) (aj.El hac0.1 (by omega))) ?_
   refine oV (aJ rfl) ?_
   refine ai (fK b2 B (at_ + m) out free 1 hl hB (by omega) (by omega)) V.fe  rfl (.cons ed .nil) rfl ?_
   rintro _ _ ⟨rfl, rfl⟩
   rw [aj.vU]
   refine oV (mW (r := aj.acc B at_ (m + 1)) rfl rfl (aj.BC hac0.1 (by omega) hb)) ?_
   refine rO iQ 6 rfl ?_
   refine oV (fX (r := af.base ls (m + 1)) rfl rfl (by decide) (EN hW (by omega))) ?_
   refine cS iQ 13 rfl (by omega) ?_
   refine oV (il (m + 1) rfl V.oB rfl rfl (by omega)) ?_
   refine oV (mR ((m : Int) + 1) V.s3 rfl bW (by (simp only [List.length_cons, List.length_nil]; omega)) (by omega) (by omega)) ?_
   refine rO iQ 3 rfl ?_
   refine aN rfl (fun h33 => ?_) (fun h33 => ?_)
   ·refine rC iQ 1 rfl ?_
    have hlt : aj.acc B at_ (m + 1) - af.base ls (m + 1) < af.cnt ls (m + 1) := by rw [← hcn]; exact h33
    have hat := af.Lj (by omega) hnn hlt
    have hol : (af.ord ls).length ≤ 320 := by rw [af.ub]; exact af.Bj hV (m := 15) (by omega)
    refine rC iQ 4 rfl ?_
    refine oV (lI (n := 16) 0 V.kV rfl bW (by omega) rfl rfl) ?_
    refine cS iQ 5 rfl (by omega) ?_
    refine oV (xI V.cQ (own eI)) ?_
    refine oV (xL V.s3 (own eI)) ?_
    refine rO iQ 10 rfl ?_
    rw [← hme]
    exact KV (G := [HC b ls, LW b2 B (at_ + (m + 1)) out free]) (aB rfl) ⟨m + 1, _, ht.uK (by omega) hx hlt, by rw [← gE (c := I3) (e := (af.off ls (m + 1) : Int) + aj.acc B at_ (m + 1) - af.base ls (m + 1)) _ (by omega)], rfl⟩ ((aX (.cons az (.cons az (.cons az .nil))) aw (fun w0 h hh => o5 rfl hh)).trans (sub (bD .nil) aw))
   ·refine rC iQ 9 rfl ?_
    refine oV (il (m + 1) rfl V.oB rfl rfl (by omega)) ?_
    refine oV (mR ((m : Int) + 1) V.s3 rfl bW (by (simp only [List.length_cons, List.length_nil]; omega)) (by omega) (by omega)) ?_
    refine cS iQ 10 rfl (by omega) ?_
    refine oV (il (m + 1) rfl V.oB rfl rfl (by omega)) ?_
    refine oV (mR ((m : Int) + 1) V.s3 rfl bW (by (simp only [List.length_cons, List.length_nil]; omega)) (by omega) (by omega)) ?_
    refine cS iQ 10 rfl (by omega) ?_
    rw [hcn, ← af.qL ls (m + 1), show (m : Int) + 1 = ((m + 1 : Nat) : Int) from by omega]
    refine j1 (m + 1) ?_ (kJ (dp ln)) (sub (.cons az (.cons az (.cons az (ar .nil)))) aw)
    exact ⟨ht.PN (by omega) hx (by rw [← hcn]; assumption), by omega⟩
  ·refine rC iQ 3 rfl ?_
   refine oV (fX (r := 2 * aj.acc B at_ m) rfl rfl (by decide) (aj.El hac0.1 (by omega))) ?_
   refine oV (aJ rfl) ?_
   refine dD (gv b2 B (at_ + m) out free 1 hl hB (by omega) ht.room (by omega)) V.fe rfl (.cons ed .nil) ?_
   rintro _ _ ⟨rfl, rfl⟩
   refine (dT (fu (dT (dT (fu (dT ?_))))))
   rw [← hme]
   exact AI (G := [HC b ls, LW b2 B (at_ + m) out free]) (.inl ⟨m, ht.short (by omega) (by omega), rfl, rfl⟩) ((aX (.cons az (.cons az (.cons az .nil))) aw (fun w0 h hh => o5 rfl hh)).trans (sub (bD .nil) aw))
 ·refine rC iQ 6 rfl ?_
  refine oV (cD V.Nr V.Lo rfl (cs := []) rfl) ?_
  refine oV (uw V.Db rfl) ?_
  refine uf rfl ?_
  skip
  rw [← hme]
  exact AI (G := [HC b ls, LW b2 B (at_ + m) out free]) (.inr ⟨m, ht.none (by omega), rfl, rfl⟩) ((aX (ic .nil) aw (fun w0 h hh => o5 rfl hh)).trans (sub (bD .nil) aw))
end Go.Proofs.YtmaiakpjgomnpaaGreat
namespace Go.Proofs.YtmaiakpjgomnpaaGreat
open Go.Sl 
theorem Q3 : dR Tryz.prog ⟨[], []⟩ = true := by kernel_rfl
theorem Bb (p : Option Addr) (cap : Nat) (ls : List Int) (R : ab) (hR : ∀ w0 h, R w0 h → aR I3 p ls.length ls w0 h) (hE : af.bU ls = 0) : aE Tryz.prog 195 [.slice p ls.length cap] [R] (aO fun v G => ∃ b, v = .tuple #[.pointer (some ⟨b, 0, none⟩), .int .i64 0] ∧ G = [HC b ls, R]) := by
 refine (EY p cap ls R hR).mono ?_
 rintro e G ⟨v, rfl, h⟩
 rcases h with ⟨_, b, h1, h2⟩ | ⟨h, _⟩
 ·exact ⟨v, rfl, b, h1, h2⟩
 ·exact absurd hE h
theorem EB (p : Option Addr) (cap : Nat) (ls : List Int) (R : ab) (hR : ∀ w0 h, R w0 h → aR I3 p ls.length ls w0 h) (hE : ¬ af.bU ls = 0) : aE Tryz.prog 195 [.slice p ls.length cap] [R] (aO fun v G => v = .tuple #[.pointer none, .int .i64 (af.bU ls)] ∧ G = [R]) := by
 refine (EY p cap ls R hR).mono ?_
 rintro e G ⟨v, rfl, h⟩
 rcases h with ⟨h, _⟩ | ⟨_, h1, h2⟩
 ·exact absurd h hE
 ·exact ⟨v, rfl, h1, h2⟩
end Go.Proofs.YtmaiakpjgomnpaaGreat
namespace Go.Proofs.YtmaiakpjgomnpaaGreat
open Go.Sl 
theorem qG : dR Tryz.prog ⟨[], [(223, 3, 3)]⟩ = true := by kernel_rfl
theorem kL (e : Int) : aE Tryz.prog 197 [.bool true, .int .i64 e] [] (aO fun v G => v = .tuple #[] ∧ G = []) := by
 refine au [(0, _), (1, _)] Tryz.func197 rfl Tryz.ntmps197 rfl rfl ?_
 intro w0 F
 refine rT qG 8 rfl ?_
 exact iR fH ⟨rfl, rfl⟩ (sub .nil aw)
theorem iN (e : Int) : aE Tryz.prog 197 [.bool false, .int .i64 e] [] (rk fun ch G => ch = ka 27 (.int .i64 e) ∧ G = []) := by
 refine au [(0, _), (1, _)] Tryz.func197 rfl Tryz.ntmps197 rfl rfl ?_
 intro w0 F
 refine rT qG 9 rfl ?_
 refine oV (uw V.AH rfl) ?_
 refine uf rfl ?_
 skip
 exact wU (G := []) ⟨rfl, rfl⟩ (sub .nil aw)
theorem Ii (b bl : Nat) (sz mo : Int) (li di : Value) (s : ad.St) (yb : Int) (hy : 0 ≤ yb ∧ yb < 256) (hm : mo < 1000000000) : aE Tryz.prog 179 [.pointer (some ⟨b, 0, none⟩), .int .u8 yb] [MS b bl sz mo li di s] (iE (ad.eX mo s yb) (fun s2 v G => v = .tuple #[] ∧ G = [MS b bl sz mo li di s2]) [MX b bl sz mo]) := by
 refine au [(0, _), (1, _)] Tryz.func179 rfl Tryz.ntmps179 rfl rfl ?_
 intro w0 F
 refine gC (fun h hh => hh) ?_
 rintro ⟨po, co⟩ _
 dsimp only
 rcases (Classical.em ((s.out.length : Int) < mo)) with hx | hx
 ·refine rT qG 1 rfl ?_
  refine wN [pz 0 [] [0], pz 1 [0] [], pz 3 [1] [], pz 7 [2] [], pz 15 [3] [], pz 0 [] [0], pz 32 [5] [], pz 96 [6] [], pz 224 [7] [], pz 511 [4, 8] [], pz 1023 [9] []] [⟨fun y => ao b 223 [.pointer (some ⟨bl, 0, none⟩), .int .i64 sz, .int .i64 mo, .slice po s.out.length co, .bool s.ended, .int .i64 0, .int .i64 s.kind, .int .i64 (s.left : Int), .bool s.last, li, di, .int .i64 (s.ay : Int), .int .i64 (s.cx : Int)], none, none, [3, 8]⟩, ⟨fun y => Row U5 po s.out.length co s.out, none, none, []⟩] F V.mixed ?_
  refine nM ?_
  refine nN ?_
  refine nG V.kK ?_
  refine nR (fun y FF hA => ae V.ez rfl an rfl) ?_
  refine nV (fun y hA L => eu (ty' := 0) Tryz.underlying22 rfl) ?_
  refine nM ?_
  refine nN ?_
  refine nG V.AK ?_
  refine nR (fun y FF hA => ae V.s3 rfl an rfl) ?_
  refine nV (fun y hA L => aY (bo rfl rfl) hx) ?_
  refine nE (fun y FF hA => bK (Post := []) (kL 6) V.iJ rfl .nil (fun v G h => by rcases h with ⟨rfl, rfl⟩; exact ⟨rfl, .refl _⟩)) ?_
  refine aU ?_
  intro y hA
  clear hA
  refine ba ?_
  refine bZ _ (.cons (d := 0) rfl (.cons (d := 1) rfl (.nil _))) ?_
  refine bP (M := ao b 223 [.pointer (some ⟨bl, 0, none⟩), .int .i64 sz, .int .i64 mo, .slice po s.out.length co, .bool s.ended, .int .i64 0, .int .i64 s.kind, .int .i64 (s.left : Int), .bool s.last, li, di, .int .i64 (s.ay : Int), .int .i64 (s.cx : Int)] :: Row U5 po s.out.length co s.out :: F) (fun _ _ h => h) ?_
  refine rC qG 5 rfl ?_
  refine oV (ae V.ez rfl an rfl) ?_
  refine oV (aJ rfl) ?_
  refine eb (U5) [yb] V.cy V.z5 rfl rfl rfl rfl rfl rfl ?_
  intro l6
  refine ef (c := (U5)) V.cy V.z5 rfl rfl rfl rfl bX (own an) (by omega) rfl ?_
  intro p22 c22
  refine rO qG 2 rfl ?_
  refine aT (bT V.ez rfl rfl rfl (by exact nb) (by exact Nat.le_of_ble_eq_true rfl) rfl) ?_
  refine cB ?_
  exact iu (x := { s with out := s.out ++ [yb] }) (by unfold ad.eX; rw [if_pos hx]) fH ⟨rfl, rfl⟩ ((aX (.cons bX (ar .nil)) cC (fun w0 h hh => dr (s := { s with out := s.out ++ [yb] }) (by simp) hh)))
 ·refine rT qG 1 rfl ?_
  refine wN [pz 0 [] [0], pz 1 [0] [], pz 3 [1] [], pz 7 [2] [], pz 15 [3] [], pz 0 [] [0], pz 32 [5] [], pz 96 [6] [], pz 224 [7] [], pz 511 [4, 8] [], pz 1023 [9] []] [⟨fun y => ao b 223 [.pointer (some ⟨bl, 0, none⟩), .int .i64 sz, .int .i64 mo, .slice po s.out.length co, .bool s.ended, .int .i64 0, .int .i64 s.kind, .int .i64 (s.left : Int), .bool s.last, li, di, .int .i64 (s.ay : Int), .int .i64 (s.cx : Int)], none, none, [3, 8, 10]⟩, ⟨fun y => Row U5 po s.out.length co s.out, none, none, []⟩] F V.mixed ?_
  refine nM ?_
  refine nN ?_
  refine nG V.kK ?_
  refine nR (fun y FF hA => ae V.ez rfl an rfl) ?_
  refine nV (fun y hA L => eu (ty' := 0) Tryz.underlying22 rfl) ?_
  refine nM ?_
  refine nN ?_
  refine nG V.AK ?_
  refine nR (fun y FF hA => ae V.s3 rfl an rfl) ?_
  refine nV (fun y hA L => aA (bo rfl rfl) hx) ?_
  refine bH (undef) _ _ (fun y => rfl) rfl (fun y => rfl) (fun y FF hA => fU (iN 6) V.iJ rfl .nil (by rintro _ _ ⟨rfl, rfl⟩; exact lf (by unfold ad.eX; rw [if_neg hx]) (PE.no (by decide)) (aX (ar .nil) (by exact uH (M := FF) (F := F)) (fun w0 h hh => cR hh)))) ?_
  refine aU ?_
  intro y hA
  exact (dJ.fact (hA 10 (by exact Nat.le_of_ble_eq_true rfl)) (q := fun _ => False) rfl).elim
end Go.Proofs.YtmaiakpjgomnpaaGreat
namespace Go.Proofs.YtmaiakpjgomnpaaGreat
open Go.Sl 
theorem jl : dR Tryz.prog ⟨[], [(156, 2, 2), (236, 0, 0)]⟩ = true := by kernel_rfl
attribute [local irreducible] af.bU af.tk af.ord af.cK af.words af.c9 ad.iK ad.iG
theorem BP (p : Option Addr) (n cap : Nat) (ls : List Int) (R : ab) (hn : n = ls.length) (hR : ∀ w0 h, R w0 h → aR I3 p ls.length ls w0 h) : aE Tryz.prog 221 [.slice p n cap] [R] (iE (ad.jo ls) (fun _ v G => ∃ b, v = .pointer (some ⟨b, 0, none⟩) ∧ G = [HC b ls, R]) []) := by
 subst hn
 refine au [(0, _)] Tryz.func221 rfl Tryz.ntmps221 rfl rfl ?_
 intro w0 F
 refine rT jl 5 rfl ?_
 rcases (Classical.em (af.bU ls = 0)) with hE | hE
 ·refine rC jl 3 rfl ?_
  refine ai (Bb p cap ls R hR hE) V.I7  rfl (ar .nil) rfl ?_
  rintro _ _ ⟨bh, rfl, rfl⟩
  refine rO jl 10 rfl ?_
  refine oV (aY (aD rfl rfl) rfl) ?_
  refine ai (kL 4) V.iJ  rfl .nil rfl ?_
  rintro _ _ ⟨rfl, rfl⟩
  refine rO jl 9 rfl ?_
  exact kG (x := ()) (by unfold ad.jo; rw [if_pos hE]) (aB rfl) ⟨bh, rfl, rfl⟩ (sub (bD .nil) aw)
 ·refine rC jl 3 rfl ?_
  refine ai (EB p cap ls R hR hE) V.I7  rfl (ar .nil) rfl ?_
  rintro _ _ ⟨rfl, rfl⟩
  refine rO jl 10 rfl ?_
  refine oV (aA (aD rfl rfl) hE) ?_
  refine dD (iN 4) V.iJ rfl .nil ?_
  rintro _ _ ⟨rfl, rfl⟩
  refine (dT ?_)
  exact ev (e := 4) (by unfold ad.jo; rw [if_neg hE]) (PE.no (by decide)) (sub .nil cC)
theorem zu (x : Int) (n : Nat) (hn : n < 1000000) : aE Tryz.prog 220 [.int .i64 x, .int .i64 (n : Int)] [] (aO fun v G => ∃ p c, v = .slice p n c ∧ G = [Row I3 p n c (List.replicate n x)]) := by
 refine au [(0, _), (1, _)] Tryz.func220 rfl Tryz.ntmps220 rfl rfl ?_
 intro w0 F
 refine rT jl 18 rfl ?_
 refine gT (Row I3 none 0 0 (List.replicate 0 x)) (Row.nil _ _ _) ?_
 refine jS (fun (k : Nat) (po : Option Addr) (co : Nat) => [(0, .int .i64 x), (5, .slice po k co), (6, .int .i64 (n : Int)), (7, .int .i64 (k : Int))]) (fun (k : Nat) (po : Option Addr) (co : Nat) => Row I3 po k co (List.replicate k x) :: F) (fun (k : Nat) (po : Option Addr) (co : Nat) => k ≤ n) (fun (k : Nat) (po : Option Addr) (co : Nat) => n - k) (i3 (0) (none) (0) ?_ (fZ ln) (sub (ar .nil) aw)) ?_
 ·exact Nat.zero_le _
 intro k po co
 rintro hk
 refine rL jl 6 rfl ?_
 refine aN rfl (fun h8 => ?_) (fun h8 => ?_)
 ·refine rC jl 7 rfl ?_
  refine eb (I3) [x] V.cQ V.z3 rfl rfl rfl rfl rfl rfl ?_
  intro b11
  refine ef (c := (I3)) V.cQ V.z3 rfl rfl rfl rfl az (own an) (by omega) rfl ?_
  intro p12 c12
  refine cS jl 8 rfl (by omega) ?_
  rw [← List.replicate_succ']
  refine j3 (k + 1) (_) (_) ?_ (fZ ln) (sub (ar .nil) cC)
  exact ⟨by omega, by omega⟩
 ·refine rC jl 12 rfl ?_
  obtain rfl : k = n := by omega
  exact ak (aB rfl) ⟨po, co, rfl, rfl⟩ (sub (ar .nil) aw)
theorem Hj  : aE Tryz.prog 222 [] [] (aO fun v G => ∃ p, v = .slice p 19 19 ∧ G = [Row I3 p 19 19 ad.ml]) := by
 refine au [] Tryz.func222 rfl Tryz.ntmps222 rfl rfl ?_
 intro w0 F
 refine rT jl 7 rfl ?_
 refine eb (I3) [16, 17, 18, 0, 8, 7, 9, 6, 10, 5, 11, 4, 12, 3, 13, 2, 14, 1, 15] V.cQ V.z3 rfl rfl rfl rfl rfl rfl ?_
 intro b1
 refine rO jl 4 rfl ?_
 exact ak (aB rfl) ⟨_, rfl, rfl⟩ (sub (ar .nil) aw)
theorem He (b : Nat) (B : List Int) (at_ : Nat) (out : List Int) (free : Int) (hl : B.length < 500000000) (ha : at_ ≤ 8 * B.length) : aE Tryz.prog 198 [.pointer (some ⟨b, 0, none⟩)] [LW b B at_ out free] (aO fun v G => v = .tuple #[] ∧ G = [LW b B (ad.dG at_) out free]) := by
 refine au [(0, _)] Tryz.func198 rfl Tryz.ntmps198 rfl rfl ?_
 intro w0 F
 refine gC (fun h hh => hh) ?_
 rintro ⟨p1, c1, p2, c2⟩ _
 dsimp only
 refine rT jl 6 rfl ?_
 refine oV (ae V.s3 rfl an rfl) ?_
 refine cS jl 2 rfl (by omega) ?_
 refine oV (fR rfl rfl (by omega) (jH (by omega) (by omega) (by omega))) ?_
 refine cS jl 4 rfl (by omega) ?_
 refine aT (bT V.s3 rfl rfl rfl (by exact cZ) (by exact Nat.le_of_ble_eq_true rfl) rfl) ?_
 refine cB ?_
 rw [show ((at_ : Int) + 8 - 1) / 8 * 8 = ((ad.dG at_ : Nat) : Int) from by unfold ad.dG; omega]
 exact iR fH ⟨rfl, rfl⟩ (aX (ic .nil) aw (fun w0 h hh => o8 hh))
theorem oG (b : Nat) (ls : List Int) (b2 : Nat) (B : List Int) (at_ : Nat) (out : List Int) (free : Int) (hE : af.bU ls = 0) (hl : B.length < 500000000) (hB : aj.av B) (ha : at_ ≤ 8 * B.length) : aE Tryz.prog 201 [.pointer (some ⟨b, 0, none⟩), .pointer (some ⟨b2, 0, none⟩)] [HC b ls, LW b2 B at_ out free] (iE (ad.sym ls B at_) (fun x v G => v = .int .i64 x.1 ∧ G = [HC b ls, LW b2 B x.2 out free]) []) := by
 intro w0 F w hi
 refine (Kw b ls b2 B at_ out free hE hl hB ha w0 F w hi).mono ?_
 rintro e w' ⟨G, h1, (⟨v, rfl, n', s', h, rfl, rfl⟩ | ⟨ch, rfl, (⟨n', h, rfl, rfl⟩ | ⟨n', h, rfl, rfl⟩)⟩)⟩
 ·exact ⟨_, h1, .inl ⟨_, rfl, (s', at_ + n'), by unfold ad.sym; rw [h], rfl, rfl⟩⟩
 ·exact ⟨[], h1.right, .inr ⟨_, rfl, 2, by unfold ad.sym; rw [h], PE.end_, rfl⟩⟩
 ·exact ⟨[], h1.right, .inr ⟨_, rfl, 4, by unfold ad.sym; rw [h], PE.none_, rfl⟩⟩
end Go.Proofs.YtmaiakpjgomnpaaGreat
namespace Go.Proofs.YtmaiakpjgomnpaaGreat
open Go.Sl 
theorem fi : dR Tryz.prog ⟨[47], [(223, 0, 0), (223, 4, 4), (223, 6, 6), (223, 8, 8)]⟩ = true := by kernel_rfl
attribute [local irreducible] af.bU af.tk af.ord af.cK af.words af.c9 ad.iK ad.iG
theorem zc (b bl : Nat) (sz mo : Int) (po : Option Addr) (no co : Nat) (li di : Value) (s : ad.St) : aE Tryz.prog 182 [.pointer (some ⟨b, 0, none⟩)] [ao b 223 [.pointer (some ⟨bl, 0, none⟩), .int .i64 sz, .int .i64 mo, .slice po no co, .bool s.ended, .int .i64 0, .int .i64 s.kind, .int .i64 (s.left : Int), .bool s.last, li, di, .int .i64 (s.ay : Int), .int .i64 (s.cx : Int)]] (aO fun v G => v = .tuple #[] ∧ G = [ao b 223 [.pointer (some ⟨bl, 0, none⟩), .int .i64 sz, .int .i64 mo, .slice po no co, .bool s.last, .int .i64 0, .int .i64 (-1), .int .i64 (s.left : Int), .bool s.last, li, di, .int .i64 (s.ay : Int), .int .i64 (s.cx : Int)]]) := by
 refine au [(0, _)] Tryz.func182 rfl Tryz.ntmps182 rfl rfl ?_
 intro w0 F
 refine rT fi 6 rfl ?_
 refine oV (ae V.s4 rfl an rfl) ?_
 refine rO fi 2 rfl ?_
 refine aT (bT V.s3 rfl rfl rfl (by exact cZ) (by exact Nat.le_of_ble_eq_true rfl) rfl) ?_
 refine rO fi 2 rfl ?_
 refine aT (bT V.s4 rfl rfl rfl (by exact cZ) (by exact Nat.le_of_ble_eq_true rfl) rfl) ?_
 refine cB ?_
 exact iR fH ⟨rfl, rfl⟩ (sub (ar .nil) aw)
set_option maxHeartbeats 1000000 in
theorem EW (b bl : Nat) (sz mo : Int) (po : Option Addr) (no co : Nat) (li di : Value) (s : ad.St) (B : List Int) (a : Nat) (sy : Int) (pl : Option Addr) (cl : Nat) (l : List Int) (hs : 0 ≤ sy ∧ sy ≤ 18) (hl : B.length < 500000000) (hB : aj.av B) (ha : a ≤ 8 * B.length) (hll : l.length < 1000000) : aE Tryz.prog 223 [.pointer (some ⟨b, 0, none⟩), .int .i64 sy, .slice pl l.length cl] [ao b 223 [.pointer (some ⟨bl, 0, none⟩), .int .i64 sz, .int .i64 mo, .slice po no co, .bool s.ended, .int .i64 0, .int .i64 s.kind, .int .i64 (s.left : Int), .bool s.last, li, di, .int .i64 (s.ay : Int), .int .i64 (s.cx : Int)], LW bl B a [] 0, Row I3 pl l.length cl l] (iE (ad.rep B sy l a) (fun x v G => v = .tuple #[.int .i64 x.1, .int .i64 x.2.1] ∧ G = [ao b 223 [.pointer (some ⟨bl, 0, none⟩), .int .i64 sz, .int .i64 mo, .slice po no co, .bool s.ended, .int .i64 0, .int .i64 s.kind, .int .i64 (s.left : Int), .bool s.last, li, di, .int .i64 (s.ay : Int), .int .i64 (s.cx : Int)], LW bl B x.2.2 [] 0, Row I3 pl l.length cl l]) [MX b bl sz mo]) := by
 refine au [(0, _), (1, _), (2, _)] Tryz.func223 rfl Tryz.ntmps223 rfl rfl ?_
 intro w0 F
 refine rT fi 19 rfl ?_
 refine aN rfl (fun h10 => ?_) (fun h10 => ?_)
 ·rcases (Nat.lt_or_ge (8 * B.length) (a + 2)) with hx | hx
  ·refine rC fi 1 rfl ?_
   have hy : sy = 16 := h10
   subst hy
   have hnb := aj.cF B a 2
   refine rC fi 4 rfl ?_
   refine oV (ae V.dO rfl an rfl) ?_
   refine dD (gv bl B a [] 0 2 hl hB (by omega) (by omega) (by omega)) V.fe rfl (.cons az .nil) ?_
   rintro _ _ ⟨rfl, rfl⟩
   refine (dT (fu (dT ?_)))
   exact ev (e := 2) (ad.pE (by decide) (show 8 * B.length < a + 2 from hx)) PE.end_ (aX (.cons az .nil) hJ (fun w0 h hh => cR hh))
  ·refine rC fi 1 rfl ?_
   have hy : sy = 16 := h10
   subst hy
   have hnb := aj.cF B a 2
   refine rC fi 4 rfl ?_
   refine oV (ae V.dO rfl an rfl) ?_
   refine ai (fK bl B a [] 0 2 hl hB (by omega) (by omega)) V.fe  rfl (.cons az .nil) rfl ?_
   rintro _ _ ⟨rfl, rfl⟩
   refine cS fi 4 rfl (by omega) ?_
   rcases (Nat.eq_zero_or_pos l.length) with hl0 | hl0
   ·refine rC fi 4 rfl ?_
    refine oV (aA (a8 rfl rfl) (by omega)) ?_
    refine dD (iN 4) V.iJ rfl .nil ?_
    rintro _ _ ⟨rfl, rfl⟩
    refine (dT (fu (dT ?_)))
    exact ev (e := 4) (ad.EE rfl (List.length_eq_zero_iff.1 hl0) (show ¬ 8 * B.length < a + 2 from by omega)) (PE.no (by decide)) (aX (.cons az .nil) hJ (fun w0 h hh => cR hh))
   ·refine rC fi 4 rfl ?_
    refine oV (aY (a8 rfl rfl) (by omega)) ?_
    refine ai (kL 4) V.iJ  rfl .nil rfl ?_
    rintro _ _ ⟨rfl, rfl⟩
    refine rO fi 3 rfl ?_
    have hgl : I3.g l ((l.length : Int) - 1) = l.getD (l.length - 1) 0 := gE _ (by omega)
    refine fL fi 5 rfl (by omega) ?_
    refine oV (xI V.cQ (own dH)) ?_
    refine oV (xL V.s3 (own dH)) ?_
    refine rO fi 8 rfl ?_
    rw [hgl]
    exact kG (x := (l.getD (l.length - 1) 0, 3 + aj.aS B a 2, a + 2)) (ad.wA (by decide) (show ¬ 8 * B.length < a + 2 from by omega) (fun h => by rw [h.2] at hl0; simp at hl0)) (fy rfl rfl) ⟨rfl, rfl⟩ (sub (.cons az (bD .nil)) aw)
 ·refine rC fi 6 rfl ?_
  refine aN rfl (fun h29 => ?_) (fun h29 => ?_)
  ·rcases (Nat.lt_or_ge (8 * B.length) (a + 3)) with hx | hx
   ·refine rC fi 1 rfl ?_
    have hy : sy = 17 := h29
    subst hy
    have hnb := aj.cF B a 3
    refine rC fi 4 rfl ?_
    refine oV (ae V.dO rfl an rfl) ?_
    refine dD (gv bl B a [] 0 3 hl hB (by omega) (by omega) (by omega)) V.fe rfl (.cons az .nil) ?_
    rintro _ _ ⟨rfl, rfl⟩
    refine (dT (fu (dT ?_)))
    exact ev (e := 2) (ad.pE (by decide) (show 8 * B.length < a + 3 from hx)) PE.end_ (aX (.cons az .nil) hJ (fun w0 h hh => cR hh))
   ·refine rC fi 1 rfl ?_
    have hy : sy = 17 := h29
    subst hy
    have hnb := aj.cF B a 3
    refine rC fi 4 rfl ?_
    refine oV (ae V.dO rfl an rfl) ?_
    refine ai (fK bl B a [] 0 3 hl hB (by omega) (by omega)) V.fe  rfl (.cons az .nil) rfl ?_
    rintro _ _ ⟨rfl, rfl⟩
    refine cS fi 8 rfl (by omega) ?_
    exact kG (x := (0, 3 + aj.aS B a 3, a + 3)) (ad.wA (by decide) (show ¬ 8 * B.length < a + 3 from by omega) (fun h => absurd h.1 (by decide))) (fy rfl rfl) ⟨rfl, rfl⟩ (sub (.cons az (bD .nil)) aw)
  ·refine rC fi 6 rfl ?_
   refine aN rfl (fun h37 => ?_) (fun h37 => ?_)
   ·rcases (Nat.lt_or_ge (8 * B.length) (a + 7)) with hx | hx
    ·refine rC fi 1 rfl ?_
     have hy : sy = 18 := h37
     subst hy
     have hnb := aj.cF B a 7
     refine rC fi 4 rfl ?_
     refine oV (ae V.dO rfl an rfl) ?_
     refine dD (gv bl B a [] 0 7 hl hB (by omega) (by omega) (by omega)) V.fe rfl (.cons az .nil) ?_
     rintro _ _ ⟨rfl, rfl⟩
     refine (dT (fu (dT ?_)))
     exact ev (e := 2) (ad.pE (by decide) (show 8 * B.length < a + 7 from hx)) PE.end_ (aX (.cons az .nil) hJ (fun w0 h hh => cR hh))
    ·refine rC fi 1 rfl ?_
     have hy : sy = 18 := h37
     subst hy
     have hnb := aj.cF B a 7
     refine rC fi 4 rfl ?_
     refine oV (ae V.dO rfl an rfl) ?_
     refine ai (fK bl B a [] 0 7 hl hB (by omega) (by omega)) V.fe  rfl (.cons az .nil) rfl ?_
     rintro _ _ ⟨rfl, rfl⟩
     refine cS fi 8 rfl (by omega) ?_
     exact kG (x := (0, 11 + aj.aS B a 7, a + 7)) (ad.wA (by decide) (show ¬ 8 * B.length < a + 7 from by omega) (fun h => absurd h.1 (by decide))) (fy rfl rfl) ⟨rfl, rfl⟩ (sub (.cons az (bD .nil)) aw)
   ·refine rC fi 11 rfl ?_
    exact kG (x := (sy, 1, a)) (ad.JQ (by omega)) (fy rfl rfl) ⟨rfl, rfl⟩ (sub (ic .nil) aw)
end Go.Proofs.YtmaiakpjgomnpaaGreat
namespace Go.Sl
section
variable {C : Ctx} {E : Env} {L F : List ab} {ops : Array Oper} {d : Option Nat} {ty : TypeId} {pos : String} {aft : Array Edge}
theorem r1 {A : Nat → ab} {f : FuncId} {args : List Operand} {tys : Array TypeId} {vs : List Value} {Pre Post : List ab} (hS : aE C.P f vs Pre (aO fun v G => ∃ b, v = .pointer (some ⟨b, 0, none⟩) ∧ G = A b :: Post)) (hb : aF C.P f = true) (hE : iF E args = some vs) (hL : fG L Pre F) :
    Step C ops ⟨d, .call ⟨.value (.func f), args.toArray, tys⟩, ty, pos, aft, none⟩ E L (fun v L' => v = .pointer (some ⟨gx v, 0, none⟩) ∧ True ∧ L'.Perm ((A (gx v) :: Post) ++ F)) :=
  qX hS hb hE hL fun v G ⟨b, e1, e2⟩ => by subst e1; subst e2; exact ⟨rfl, trivial, .refl _⟩
theorem kT {t n e sz : Nat} {parts : List (Nat × Operand)} {pv : List (Nat × Value)} {zs cs : List Value} (har : jP C.P t = some (n, e, sz)) (hz : dC C.P t = some zs) (hp : ow E parts = some pv) (hf : Instr.fill (fun i => some (i * sz, sz)) zs.toArray pv = some cs.toArray) :
    cA C (.build t parts.toArray) ty E L (.agg cs.toArray) L :=
  dV fun d pos aft g a w ha => by
    obtain ⟨i', z, hz1, hz2, hz3, hz4⟩ := kd hz
    have hmap : parts.toArray.map (fun x => match x with | (i, x) => (i, a.eval x)) = pv.toArray := by
      rw [← nc hp a ha]; simp
    unfold jP at har
    split at har
    · rename_i n' e' hfs
      split at har
      · rename_i i hi
        cases har
        simp only [execOp, hmap, Instr.build, Sem.run_bind, zeroValue, typeInfo, run_program, Result.andThen_ok, hz1, hz2, Sem.run_pure, run_underlying hfs, run_sizeOf hi, hz3]
        simp [hf]
      · cases har
    · cases har
end
theorem rp {p : Option Addr} {n c m : Nat} {l : List Int} {w0 : World} {h : Hp} (hn : n = l.length) (hm : m ≤ n) (hh : Row I3 p n c l w0 h) : aR I3 p (l.take m).length (l.take m) w0 h := by
  have := hh.rd.sub 0 m m (Nat.zero_le _) hm (Nat.le_refl _)
  rw [nm, Nat.sub_zero, List.drop_zero] at this
  rw [List.length_take, ← hn, Nat.min_eq_left hm]
  exact this
theorem wK {p : Option Addr} {n c m : Nat} {l : List Int} {w0 : World} {h : Hp} (hn : n = l.length) (hm : m ≤ n) (hc : n ≤ c) (hh : Row I3 p n c l w0 h) : aR I3 (eh p m c 1) (l.drop m).length (l.drop m) w0 h := by
  have := hh.rd.sub m n c hm (Nat.le_refl _) hc
  rw [List.take_of_length_le (by rw [List.length_drop]; omega)] at this
  rw [List.length_drop, ← hn]
  exact this
theorem ta {p : Option Addr} {n c : Nat} {l : List Int} {w0 : World} {h : Hp} (hn : n = l.length) (hh : Row I3 p n c l w0 h) : aR I3 p l.length l w0 h := by subst hn; exact hh.rd
end Go.Sl
namespace Go.Proofs.YtmaiakpjgomnpaaGreat
open Go.Sl 
theorem lu : dR Tryz.prog ⟨[247], [(223, 9, 9), (223, 10, 10)]⟩ = true := by kernel_rfl
attribute [local irreducible] af.bU af.tk af.ord af.cK af.words af.c9 ad.iG ad.de ad.dz ad.eo ad.hL ad.hD ad.hC ad.fz ad.told ad.fT ad.jo ad.rep
abbrev P2 : Ec (Int × Int) := ⟨246, 2, fun x => [.int .i64 x.1, .int .i64 x.2], (0, 0), fun _ => rfl, fun _ => rfl⟩
theorem mH (p : Option Addr) (n cap : Nat) (ls : List Int) (R : ab) (hn : n = ls.length) (hR : ∀ w0 h, R w0 h → aR I3 p ls.length ls w0 h) (hE : af.bU ls = 0) : aE Tryz.prog 221 [.slice p n cap] [R] (aO fun v G => ∃ b, v = .pointer (some ⟨b, 0, none⟩) ∧ G = [HC b ls, R]) :=
 (BP p n cap ls R hn hR).ok (x := ()) (by unfold ad.jo; rw [if_pos hE])
theorem ux (p : Option Addr) (n cap : Nat) (ls : List Int) (R : ab) (hn : n = ls.length) (hR : ∀ w0 h, R w0 h → aR I3 p ls.length ls w0 h) (hE : af.bU ls ≠ 0) : aE Tryz.prog 221 [.slice p n cap] [R] (rk fun ch G => PE 4 ch ∧ G = []) :=
 (BP p n cap ls R hn hR).err (by unfold ad.jo; rw [if_neg hE])
theorem Cd (x n : Int) (hn : 0 ≤ n ∧ n < 1000000) : aE Tryz.prog 220 [.int .i64 x, .int .i64 n] [] (aO fun v G => ∃ p c, v = .slice p n.toNat c ∧ G = [Row I3 p n.toNat c (List.replicate n.toNat x)]) := by
 have h := zu x n.toNat (by omega)
 rw [Int.toNat_of_nonneg hn.1] at h
 exact h
theorem GB (b bl : Nat) (sz mo : Int) (po : Option Addr) (no co : Nat) (li di : Value) (s : ad.St) : aE Tryz.prog 199 [.pointer (some ⟨b, 0, none⟩)] [ao b 223 [.pointer (some ⟨bl, 0, none⟩), .int .i64 sz, .int .i64 mo, .slice po no co, .bool s.ended, .int .i64 0, .int .i64 s.kind, .int .i64 (s.left : Int), .bool s.last, li, di, .int .i64 (s.ay : Int), .int .i64 (s.cx : Int)]] (aO fun v G => ∃ l d, v = .tuple #[] ∧ G = [ao b 223 [.pointer (some ⟨bl, 0, none⟩), .int .i64 sz, .int .i64 mo, .slice po no co, .bool s.ended, .int .i64 0, .int .i64 s.kind, .int .i64 (s.left : Int), .bool s.last, (.pointer (some ⟨l, 0, none⟩)), (.pointer (some ⟨d, 0, none⟩)), .int .i64 (s.ay : Int), .int .i64 (s.cx : Int)], HC l ad.fT, HC d ad.lh]) := by
 refine au [(0, _)] Tryz.func199 rfl Tryz.ntmps199 rfl rfl ?_
 intro w0 F
 refine rT lu 8 rfl ?_
 iterate 4 refine oV (kT V.zM V.Ez rfl (cs := [_, _]) rfl) ?_
 refine eb (P2) ad.jd V.F0 V.Ez rfl rfl rfl rfl rfl rfl ?_
 intro b9
 refine rO lu 5 rfl ?_
 refine gT (Row I3 none 0 0 (ad.iK 0)) (Row.nil _ _ _) ?_
 refine jS (fun (k : Nat) (pr : Option Addr) (cr : Nat) => [(0, .pointer (some ⟨b, 0, none⟩)), (2, .slice pr (ad.iK k).length cr), (9, .slice (some ⟨b9, 0, none⟩) 4 4), (10, .int .i64 4), (11, .int .i64 (k : Int))]) (fun (k : Nat) (pr : Option Addr) (cr : Nat) => Row I3 pr (ad.iK k).length cr (ad.iK k) :: Row P2 (some ⟨b9, 0, none⟩) 4 4 ad.jd :: ao b 223 [.pointer (some ⟨bl, 0, none⟩), .int .i64 sz, .int .i64 mo, .slice po no co, .bool s.ended, .int .i64 0, .int .i64 s.kind, .int .i64 (s.left : Int), .bool s.last, li, di, .int .i64 (s.ay : Int), .int .i64 (s.cx : Int)] :: F) (fun (k : Nat) (pr : Option Addr) (cr : Nat) => k ≤ 4) (fun (k : Nat) (pr : Option Addr) (cr : Nat) => 4 - k) (i3 (0) (none) (0) ?_ (dp ln) (sub (ic .nil) aw)) ?_
 ·exact Nat.zero_le _
 intro k pr cr
 rintro hk
 refine rL lu 6 rfl ?_
 refine aN rfl (fun h12 => ?_) (fun h12 => ?_)
 ·refine rC lu 6 rfl ?_
  refine oV (xI V.F0 (own bW)) ?_
  refine oV (n8 (c := (P2)) V.KR rfl (own bW) (by omega) (by omega) rfl) ?_
  refine cn V.Ez rfl ?_
  intro b4
  refine aT (aH V.KR rfl rfl (us := [_, _]) rfl rfl (by exact cZ) (by exact Nat.le_of_ble_eq_true rfl) rfl) ?_
  refine rO lu 2 rfl ?_
  have hf1 : 0 ≤ (P2.g ad.jd (k : Int)).2 ∧ (P2.g ad.jd (k : Int)).2 < 200 := ad.Ik (by omega)
  have hf2 := ad.Gu k (by omega)
  refine rC lu 2 rfl ?_
  refine oV (il 0 rfl V.zM rfl rfl (by omega)) ?_
  refine oV (ae V.s3 rfl an rfl) ?_
  refine oV (il 1 rfl V.zM rfl rfl (by omega)) ?_
  refine oV (ae V.s3 rfl an rfl) ?_
  refine ai (Cd (P2.g ad.jd (k : Int)).1 (P2.g ad.jd (k : Int)).2 (by omega)) V.zG  rfl .nil rfl ?_
  rintro _ _ ⟨p20, c20, rfl, rfl⟩
  refine ef (c := (I3)) V.cQ V.z3 rfl rfl rfl rfl bX (own an) (by omega) rfl ?_
  intro p21 c21
  refine cS lu 8 rfl (by omega) ?_
  have hst : ad.iK (k + 1) = ad.iK k ++ List.replicate (P2.g ad.jd (k : Int)).2.toNat (P2.g ad.jd (k : Int)).1 := ad.BN k
  have hsl : (ad.iK (k + 1)).length = (ad.iK k).length + (P2.g ad.jd (k : Int)).2.toNat := by rw [hst, List.length_append, List.length_replicate]
  rw [← hst, ← hsl]
  refine j3 (k + 1) (_) (_) ?_ (dp ln) (sub (ar (.cons bX (.cons bX .nil))) hJ)
  exact ⟨by omega, by omega⟩
 ·refine rC lu 5 rfl ?_
  have hk4 : k = 4 := by omega
  have hfl : af.bU (ad.iK k) = 0 := by rw [hk4, ad.Ax]; exact ad.xS
  refine rC lu 4 rfl ?_
  refine ai (mH pr (ad.iK k).length cr (ad.iK k) (Row I3 pr (ad.iK k).length cr (ad.iK k)) rfl (fun _ _ hh => ta rfl hh) hfl) V.oH  rfl (ar .nil) rfl ?_
  rintro _ _ ⟨l26, rfl, rfl⟩
  refine ai (zu 5 32 (by omega)) V.zG  rfl .nil rfl ?_
  rintro _ _ ⟨p27, AH, rfl, rfl⟩
  refine ai (mH p27 32 AH (List.replicate 32 5) (Row I3 p27 32 AH (List.replicate 32 5)) rfl (fun _ _ hh => ta rfl hh) ad.x9) V.oH  rfl (ar .nil) rfl ?_
  rintro _ _ ⟨d28, rfl, rfl⟩
  refine rO lu 2 rfl ?_
  refine aT (bT V.qy rfl rfl rfl (by exact CV) (by exact Nat.le_of_ble_eq_true rfl) rfl) ?_
  refine rO lu 2 rfl ?_
  refine aT (bT V.qy rfl rfl rfl (by exact CV) (by exact Nat.le_of_ble_eq_true rfl) rfl) ?_
  refine cB ?_
  rw [hk4, ad.Ax]
  exact iR fH ⟨l26, d28, rfl, rfl⟩ (sub (.cons j6 (.cons bX (ar .nil))) oc)
end Go.Proofs.YtmaiakpjgomnpaaGreat
namespace Go.Proofs.YtmaiakpjgomnpaaGreat
open Go.Sl 
theorem dk : dR Tryz.prog ⟨[47], [(223, 0, 0)]⟩ = true := by kernel_rfl
attribute [local irreducible] af.bU af.tk af.ord af.cK af.words af.c9 ad.iG ad.de ad.dz ad.eo ad.hL ad.hD ad.hC ad.fz ad.told ad.fT ad.jo ad.rep
set_option maxHeartbeats 4000000 in
theorem BS (b bl : Nat) (sz mo : Int) (po : Option Addr) (no co : Nat) (li di : Value) (s : ad.St) (B : List Int) (a : Nat) (hl : B.length < 500000000) (hB : aj.av B) (ha : a ≤ 8 * B.length) : aE Tryz.prog 200 [.pointer (some ⟨b, 0, none⟩)] [ao b 223 [.pointer (some ⟨bl, 0, none⟩), .int .i64 sz, .int .i64 mo, .slice po no co, .bool s.ended, .int .i64 0, .int .i64 s.kind, .int .i64 (s.left : Int), .bool s.last, li, di, .int .i64 (s.ay : Int), .int .i64 (s.cx : Int)], LW bl B a [] 0] (iE (ad.told B a) (fun x v G => ∃ l d, v = .tuple #[] ∧ G = [ao b 223 [.pointer (some ⟨bl, 0, none⟩), .int .i64 sz, .int .i64 mo, .slice po no co, .bool s.ended, .int .i64 0, .int .i64 s.kind, .int .i64 (s.left : Int), .bool s.last, (.pointer (some ⟨l, 0, none⟩)), (.pointer (some ⟨d, 0, none⟩)), .int .i64 (s.ay : Int), .int .i64 (s.cx : Int)], LW bl B x.1 [] 0, HC l x.2.1, HC d x.2.2]) [MX b bl sz mo]) := by
 refine au [(0, _)] Tryz.func200 rfl Tryz.ntmps200 rfl rfl ?_
 intro w0 F
 have hn1 := aj.cF B a 5
 have hn2 := aj.cF B (a + 5) 5
 have hn3 := aj.cF B (a + 10) 4
 obtain ⟨he1, he2, he3, he4, he5, he6, he7, he8⟩ := ad.Cp B a
 have hNN : ad.dz B a = ad.hL B a + ad.hD B a := ad.xv B a
 have hAA : ad.eo B a = a + 14 + 3 * ad.hC B a := ad.vx B a
 rcases (ad.MZ B.length a) with hx | ⟨hx1, hx⟩ | ⟨hx1, hx⟩ | h14
 ·refine rT dk 1 rfl ?_
  refine wN [pz 0 [] [0], pz 1 [0] [], pz 3 [1] [], pz 7 [2] [], pz 15 [3] [], pz 31 [4] [], pz 0 [] [0], pz 64 [6] [], pz 192 [7] [], pz 448 [8] [], pz 991 [9] [], pz 2015 [10] [], pz 0 [] [0], pz 4096 [12] [], pz 12288 [13] [], pz 28672 [14] [], pz 63455 [15] [], pz 128991 [16] [], pz 129023 [5] [], pz 393215 [11] [], pz 1048575 [17] []] [⟨fun y => ao b 223 [.pointer (some ⟨bl, 0, none⟩), .int .i64 sz, .int .i64 mo, .slice po no co, .bool s.ended, .int .i64 0, .int .i64 s.kind, .int .i64 (s.left : Int), .bool s.last, li, di, .int .i64 (s.ay : Int), .int .i64 (s.cx : Int)], none, none, [3, 4, 9, 15]⟩, ⟨fun y => LW bl B a [] 0, none, none, [4]⟩] F V.mixed ?_
  refine nM ?_
  refine nN ?_
  refine nG V.eJ ?_
  refine nR (fun y FF hA => ae V.dO rfl an rfl) ?_
  refine bH (undef) _ _ (fun y => rfl) rfl (fun y => rfl) (fun y FF hA => fU (gv bl B a [] 0 5 hl hB (by omega) (by omega) (by omega)) V.fe rfl (.cons az .nil) (by rintro _ _ ⟨rfl, rfl⟩; exact lf (ad.tb (by omega)) PE.end_ (aX (.cons az .nil) (by exact vW (M := FF) (F := F)) (fun w0 h hh => cR hh)))) ?_
  refine bH (.bool true) _ _ (fun y => rfl) rfl (fun y => rfl) (fun y FF hA => (dJ.fact (hA 4 (by decide)) (q := fun _ => False) rfl).elim) ?_
  refine nM ?_
  refine nN ?_
  refine nG V.eJ ?_
  refine nR (fun y FF hA => ae V.dO rfl an rfl) ?_
  refine bH (.bool true) _ _ (fun y => rfl) rfl (fun y => rfl) (fun y FF hA => (dJ.fact (hA 4 (by decide)) (q := fun _ => False) rfl).elim) ?_
  refine bH (.bool true) _ _ (fun y => rfl) rfl (fun y => rfl) (fun y FF hA => (dJ.fact (hA 4 (by decide)) (q := fun _ => False) rfl).elim) ?_
  refine nM ?_
  refine nN ?_
  refine nG V.eJ ?_
  refine nR (fun y FF hA => ae V.dO rfl an rfl) ?_
  refine bH (.bool true) _ _ (fun y => rfl) rfl (fun y => rfl) (fun y FF hA => (dJ.fact (hA 4 (by decide)) (q := fun _ => False) rfl).elim) ?_
  refine bH (.bool true) _ _ (fun y => rfl) rfl (fun y => rfl) (fun y FF hA => (dJ.fact (hA 4 (by decide)) (q := fun _ => False) rfl).elim) ?_
  refine bH (.bool true) _ _ (fun y => rfl) rfl (fun y => rfl) (fun y FF hA => (dJ.fact (hA 4 (by decide)) (q := fun _ => False) rfl).elim) ?_
  refine bH (.bool true) _ _ (fun y => rfl) rfl (fun y => rfl) (fun y FF hA => (dJ.fact (hA 4 (by decide)) (q := fun _ => False) rfl).elim) ?_
  refine bH (.bool true) _ _ (fun y => rfl) rfl (fun y => rfl) (fun y FF hA => (dJ.fact (hA 4 (by decide)) (q := fun _ => False) rfl).elim) ?_
  refine aU ?_
  intro y hA
  exact (dJ.fact (hA 4 (by exact Nat.le_of_ble_eq_true rfl)) (q := fun _ => False) rfl).elim
 ·refine rT dk 1 rfl ?_
  refine wN [pz 0 [] [0], pz 1 [0] [], pz 3 [1] [], pz 7 [2] [], pz 15 [3] [], pz 31 [4] [], pz 0 [] [0], pz 64 [6] [], pz 192 [7] [], pz 448 [8] [], pz 991 [9] [], pz 2015 [10] [], pz 0 [] [0], pz 4096 [12] [], pz 12288 [13] [], pz 28672 [14] [], pz 63455 [15] [], pz 128991 [16] [], pz 129023 [5] [], pz 393215 [11] [], pz 1048575 [17] []] [⟨fun y => ao b 223 [.pointer (some ⟨bl, 0, none⟩), .int .i64 sz, .int .i64 mo, .slice po no co, .bool s.ended, .int .i64 0, .int .i64 s.kind, .int .i64 (s.left : Int), .bool s.last, li, di, .int .i64 (s.ay : Int), .int .i64 (s.cx : Int)], none, none, [3, 9, 10, 15]⟩, ⟨fun y => LW bl B a [] 0, none, some 4, []⟩, ⟨fun y => LW bl B (a + 5) [] 0, some 4, none, [10]⟩] F V.mixed ?_
  refine nM ?_
  refine nN ?_
  refine nG V.eJ ?_
  refine nR (fun y FF hA => ae V.dO rfl an rfl) ?_
  refine nE (fun y FF hA => bK (Post := [LW bl B (a + 5) [] 0]) (fK bl B a [] 0 5 hl hB (by omega) (by omega)) V.fe rfl (ar .nil) (fun v G h => by rcases h with ⟨rfl, rfl⟩; exact ⟨rfl, .refl _⟩)) ?_
  refine nV (fun y hA L => dj rfl rfl wI) ?_
  refine nM ?_
  refine nN ?_
  refine nG V.eJ ?_
  refine nR (fun y FF hA => ae V.dO rfl an rfl) ?_
  refine bH (undef) _ _ (fun y => rfl) rfl (fun y => rfl) (fun y FF hA => fU (gv bl B (a + 5) [] 0 5 hl hB (by omega) (by omega) (by omega)) V.fe rfl (.cons az .nil) (by rintro _ _ ⟨rfl, rfl⟩; exact lf (ad.tb (by omega)) PE.end_ (aX (.cons az .nil) (by exact vW (M := FF) (F := F)) (fun w0 h hh => cR hh)))) ?_
  refine bH (.bool true) _ _ (fun y => rfl) rfl (fun y => rfl) (fun y FF hA => (dJ.fact (hA 10 (by decide)) (q := fun _ => False) rfl).elim) ?_
  refine nM ?_
  refine nN ?_
  refine nG V.eJ ?_
  refine nR (fun y FF hA => ae V.dO rfl an rfl) ?_
  refine bH (.bool true) _ _ (fun y => rfl) rfl (fun y => rfl) (fun y FF hA => (dJ.fact (hA 10 (by decide)) (q := fun _ => False) rfl).elim) ?_
  refine bH (.bool true) _ _ (fun y => rfl) rfl (fun y => rfl) (fun y FF hA => (dJ.fact (hA 10 (by decide)) (q := fun _ => False) rfl).elim) ?_
  refine bH (.bool true) _ _ (fun y => rfl) rfl (fun y => rfl) (fun y FF hA => (dJ.fact (hA 10 (by decide)) (q := fun _ => False) rfl).elim) ?_
  refine bH (.bool true) _ _ (fun y => rfl) rfl (fun y => rfl) (fun y FF hA => (dJ.fact (hA 10 (by decide)) (q := fun _ => False) rfl).elim) ?_
  refine bH (.bool true) _ _ (fun y => rfl) rfl (fun y => rfl) (fun y FF hA => (dJ.fact (hA 10 (by decide)) (q := fun _ => False) rfl).elim) ?_
  refine aU ?_
  intro y hA
  exact (dJ.fact (hA 10 (by exact Nat.le_of_ble_eq_true rfl)) (q := fun _ => False) rfl).elim
 ·refine rT dk 1 rfl ?_
  refine wN [pz 0 [] [0], pz 1 [0] [], pz 3 [1] [], pz 7 [2] [], pz 15 [3] [], pz 31 [4] [], pz 0 [] [0], pz 64 [6] [], pz 192 [7] [], pz 448 [8] [], pz 991 [9] [], pz 2015 [10] [], pz 0 [] [0], pz 4096 [12] [], pz 12288 [13] [], pz 28672 [14] [], pz 63455 [15] [], pz 128991 [16] [], pz 129023 [5] [], pz 393215 [11] [], pz 1048575 [17] []] [⟨fun y => ao b 223 [.pointer (some ⟨bl, 0, none⟩), .int .i64 sz, .int .i64 mo, .slice po no co, .bool s.ended, .int .i64 0, .int .i64 s.kind, .int .i64 (s.left : Int), .bool s.last, li, di, .int .i64 (s.ay : Int), .int .i64 (s.cx : Int)], none, none, [3, 9, 15, 16]⟩, ⟨fun y => LW bl B a [] 0, none, some 4, []⟩, ⟨fun y => LW bl B (a + 5) [] 0, some 4, some 10, []⟩, ⟨fun y => LW bl B (a + 10) [] 0, some 10, none, [16]⟩] F V.mixed ?_
  refine nM ?_
  refine nN ?_
  refine nG V.eJ ?_
  refine nR (fun y FF hA => ae V.dO rfl an rfl) ?_
  refine nE (fun y FF hA => bK (Post := [LW bl B (a + 5) [] 0]) (fK bl B a [] 0 5 hl hB (by omega) (by omega)) V.fe rfl (ar .nil) (fun v G h => by rcases h with ⟨rfl, rfl⟩; exact ⟨rfl, .refl _⟩)) ?_
  refine nV (fun y hA L => dj rfl rfl wI) ?_
  refine nM ?_
  refine nN ?_
  refine nG V.eJ ?_
  refine nR (fun y FF hA => ae V.dO rfl an rfl) ?_
  refine nE (fun y FF hA => bK (Post := [LW bl B (a + 10) [] 0]) (fK bl B (a + 5) [] 0 5 hl hB (by omega) (by omega)) V.fe rfl (ar .nil) (fun v G h => by rcases h with ⟨rfl, rfl⟩; exact ⟨rfl, .refl _⟩)) ?_
  refine nV (fun y hA L => dj rfl rfl wI) ?_
  refine nM ?_
  refine nN ?_
  refine nG V.eJ ?_
  refine nR (fun y FF hA => ae V.dO rfl an rfl) ?_
  refine bH (undef) _ _ (fun y => rfl) rfl (fun y => rfl) (fun y FF hA => fU (gv bl B (a + 10) [] 0 4 hl hB (by omega) (by omega) (by omega)) V.fe rfl (.cons az .nil) (by rintro _ _ ⟨rfl, rfl⟩; exact lf (ad.tb (by omega)) PE.end_ (aX (.cons az .nil) (by exact vW (M := FF) (F := F)) (fun w0 h hh => cR hh)))) ?_
  refine bH (.bool true) _ _ (fun y => rfl) rfl (fun y => rfl) (fun y FF hA => (dJ.fact (hA 16 (by decide)) (q := fun _ => False) rfl).elim) ?_
  refine bH (.bool true) _ _ (fun y => rfl) rfl (fun y => rfl) (fun y FF hA => (dJ.fact (hA 16 (by decide)) (q := fun _ => False) rfl).elim) ?_
  refine bH (.bool true) _ _ (fun y => rfl) rfl (fun y => rfl) (fun y FF hA => (dJ.fact (hA 16 (by decide)) (q := fun _ => False) rfl).elim) ?_
  refine bH (.bool true) _ _ (fun y => rfl) rfl (fun y => rfl) (fun y FF hA => (dJ.fact (hA 16 (by decide)) (q := fun _ => False) rfl).elim) ?_
  refine aU ?_
  intro y hA
  exact (dJ.fact (hA 16 (by exact Nat.le_of_ble_eq_true rfl)) (q := fun _ => False) rfl).elim
 ·refine rT dk 1 rfl ?_
  refine wN [pz 0 [] [0], pz 1 [0] [], pz 3 [1] [], pz 7 [2] [], pz 15 [3] [], pz 31 [4] [], pz 0 [] [0], pz 64 [6] [], pz 192 [7] [], pz 448 [8] [], pz 991 [9] [], pz 2015 [10] [], pz 0 [] [0], pz 4096 [12] [], pz 12288 [13] [], pz 28672 [14] [], pz 63455 [15] [], pz 128991 [16] [], pz 129023 [5] [], pz 393215 [11] [], pz 1048575 [17] []] [⟨fun y => ao b 223 [.pointer (some ⟨bl, 0, none⟩), .int .i64 sz, .int .i64 mo, .slice po no co, .bool s.ended, .int .i64 0, .int .i64 s.kind, .int .i64 (s.left : Int), .bool s.last, li, di, .int .i64 (s.ay : Int), .int .i64 (s.cx : Int)], none, none, [3, 9, 15]⟩, ⟨fun y => LW bl B a [] 0, none, some 4, []⟩, ⟨fun y => LW bl B (a + 5) [] 0, some 4, some 10, []⟩, ⟨fun y => LW bl B (a + 10) [] 0, some 10, some 16, []⟩, ⟨fun y => LW bl B (a + 14) [] 0, some 16, none, []⟩] F V.mixed ?_
  refine nM ?_
  refine nN ?_
  refine nG V.eJ ?_
  refine nR (fun y FF hA => ae V.dO rfl an rfl) ?_
  refine nE (fun y FF hA => bK (Post := [LW bl B (a + 5) [] 0]) (fK bl B a [] 0 5 hl hB (by omega) (by omega)) V.fe rfl (ar .nil) (fun v G h => by rcases h with ⟨rfl, rfl⟩; exact ⟨rfl, .refl _⟩)) ?_
  refine nV (fun y hA L => dj rfl rfl wI) ?_
  refine nM ?_
  refine nN ?_
  refine nG V.eJ ?_
  refine nR (fun y FF hA => ae V.dO rfl an rfl) ?_
  refine nE (fun y FF hA => bK (Post := [LW bl B (a + 10) [] 0]) (fK bl B (a + 5) [] 0 5 hl hB (by omega) (by omega)) V.fe rfl (ar .nil) (fun v G h => by rcases h with ⟨rfl, rfl⟩; exact ⟨rfl, .refl _⟩)) ?_
  refine nV (fun y hA L => dj rfl rfl wI) ?_
  refine nM ?_
  refine nN ?_
  refine nG V.eJ ?_
  refine nR (fun y FF hA => ae V.dO rfl an rfl) ?_
  refine nE (fun y FF hA => bK (Post := [LW bl B (a + 14) [] 0]) (fK bl B (a + 10) [] 0 4 hl hB (by omega) (by omega)) V.fe rfl (ar .nil) (fun v G h => by rcases h with ⟨rfl, rfl⟩; exact ⟨rfl, .refl _⟩)) ?_
  refine nV (fun y hA L => dj rfl rfl wI) ?_
  iterate 3 refine nA ?_
  refine aU ?_
  intro y hA
  clear hA
  refine ba ?_
  refine bZ _ (.cons (d := 0) rfl (.cons (d := 2) rfl (.cons (d := 3) rfl (.cons (d := 4) rfl (.nil _))))) ?_
  refine bP (M := ao b 223 [.pointer (some ⟨bl, 0, none⟩), .int .i64 sz, .int .i64 mo, .slice po no co, .bool s.ended, .int .i64 0, .int .i64 s.kind, .int .i64 (s.left : Int), .bool s.last, li, di, .int .i64 (s.ay : Int), .int .i64 (s.cx : Int)] :: LW bl B (a + 14) [] 0 :: F) (fun _ _ h => h) ?_
  rcases (ad.Jw (ad.hL B a ≤ 286) (ad.hD B a ≤ 30)) with ⟨hq1, hq2⟩ | ⟨hq1, hq2⟩ | hq1
  ·refine rC dk 1 rfl ?_
   rw [he1, he2, he3]
   refine rC dk 2 rfl ?_
   refine oV (aY (eH rfl rfl) (by omega)) ?_
   refine rO dk 2 rfl ?_
   refine ag rfl ?_
   refine oV (aY (eH rfl rfl) (by omega)) ?_
   refine oV (lJ rfl rfl) ?_
   refine ai (kL 4) V.iJ  rfl .nil rfl ?_
   rintro _ _ ⟨rfl, rfl⟩
   refine rO dk 4 rfl ?_
   refine ai (zu 0 19 (by omega)) V.zG  rfl .nil rfl ?_
   rintro _ _ ⟨p37, c37, rfl, rfl⟩
   refine rO dk 6 rfl ?_
   refine ai (Hj) V.O9  rfl .nil rfl ?_
   rintro _ _ ⟨p38, rfl, rfl⟩
   refine oV (aJ rfl) ?_
   refine oV (j8 (ad.hC B a) _ V.cQ rfl ⟨_, rfl⟩ rfl (by omega) (by omega)) ?_
   refine rO dk 5 rfl ?_
   rw [← ad.Ew B (a + 14)]
   rw [show LW bl B (a + 14) [] 0 = LW bl B (a + 14 + 3 * 0) [] 0 from rfl]
   refine dX (fun (k : Nat) => [(0, .pointer (some ⟨b, 0, none⟩)), (2, .int .i64 (ad.hL B a : Int)), (3, .int .i64 (ad.hD B a : Int)), (5, .slice p37 19 c37), (40, .slice p38 (ad.hC B a) 19), (41, .int .i64 ((ad.hC B a) : Int)), (42, .int .i64 (k : Int))]) (fun (k : Nat) => Row I3 p37 19 c37 (ad.iG B (a + 14) k) :: Row I3 p38 19 19 ad.ml :: ao b 223 [.pointer (some ⟨bl, 0, none⟩), .int .i64 sz, .int .i64 mo, .slice po no co, .bool s.ended, .int .i64 0, .int .i64 s.kind, .int .i64 (s.left : Int), .bool s.last, li, di, .int .i64 (s.ay : Int), .int .i64 (s.cx : Int)] :: LW bl B (a + 14 + 3 * k) [] 0 :: F) (fun (k : Nat) => k ≤ ad.hC B a ∧ a + 14 + 3 * k ≤ 8 * B.length) (fun (k : Nat) => ad.hC B a - k) (i1 (0) ?_ (ku (dp ln)) (sub (.cons az (ic .nil)) aw)) ?_
   ·exact ⟨Nat.zero_le _, by omega⟩
   intro k
   rintro ⟨hk, hk2⟩
   refine rL dk 6 rfl ?_
   refine aN rfl (fun h43 => ?_) (fun h43 => ?_)
   ·refine rC dk 5 rfl ?_
    have hoo : 0 ≤ I3.g ad.ml (k : Int) ∧ I3.g ad.ml (k : Int) < 19 := ad.Ie (k := k) (by omega)
    refine a7 ?_
    refine oV (yt (c := (I3)) V.cQ rfl rfl (by exact (own bW).take _ (by omega)) (by omega) (by omega)) ?_
    refine oV (xL V.s3 (own bW)) ?_
    refine rO dk 3 rfl ?_
    rcases (Nat.lt_or_ge (8 * B.length) ((a + 14 + 3 * k) + 3)) with hx | hx
    ·refine rC dk 6 rfl ?_
     refine oV (ae V.dO rfl dH rfl) ?_
     refine dD (gv bl B (a + 14 + 3 * k) [] 0 3 hl hB (by omega) (by omega) (by omega)) V.fe rfl (.cons ed .nil) ?_
     rintro _ _ ⟨rfl, rfl⟩
     refine (fu (dT (dT (fu (dT ?_)))))
     exact ev (ad.BZ h14 ⟨hq1, hq2⟩ (by omega)) PE.end_ (aX (.cons ed .nil) oc (fun w0 h hh => cR hh))
    ·refine rC dk 6 rfl ?_
     refine oV (ae V.dO rfl dH rfl) ?_
     refine ai (fK bl B (a + 14 + 3 * k) [] 0 3 hl hB (by omega) (by omega)) V.fe  rfl (.cons ed .nil) rfl ?_
     rintro _ _ ⟨rfl, rfl⟩
     refine oV (xI V.cQ (own bW)) ?_
     refine aT (ij (c := (I3)) (_) V.s3 rfl rfl rfl (by exact mi) (by omega) (by omega) rfl rfl) ?_
     refine cS dk 7 rfl (by omega) ?_
     rw [show (ad.iG B (a + 14) k).set (I3.g ad.ml (k : Int)).toNat (aj.aS B (a + 14 + 3 * k) 3) = ad.iG B (a + 14) (k + 1) from (ad.DA B (a + 14) k).symm]
     rw [show a + 14 + 3 * k + 3 = a + 14 + 3 * (k + 1) from by omega]
     refine j1 (k + 1) ?_ (ku (dp ln)) (sub (.cons az (.cons az (.cons az (ar .nil)))) aw)
     exact ⟨⟨by omega, by omega⟩, by omega⟩
   ·refine rC dk 5 rfl ?_
    rcases (Classical.em (af.bU (ad.de B a) = 0)) with hy | hy
    ·refine rC dk 1 rfl ?_
     have hkC : k = ad.hC B a := by omega
     rw [show ad.iG B (a + 14) k = ad.de B a from by rw [hkC]; exact (ad.vS B a).symm, show a + 14 + 3 * k = ad.eo B a from by omega]
     have hta : ad.eo B a ≤ 8 * B.length := by omega
     refine rC dk 2 rfl ?_
     refine ai (mH p37 19 c37 (ad.de B a) (Row I3 p37 19 c37 (ad.de B a)) (ad.iW B a).symm (fun _ _ hh => ta (ad.iW B a).symm hh) hy) V.oH  rfl (ar .nil) rfl ?_
     rintro _ _ ⟨bc, rfl, rfl⟩
     refine rO dk 10 rfl ?_
     refine gT (Row I3 none 0 0 []) (Row.nil _ _ _) ?_
     refine zj (fun (l : List Int) (f : Nat) (x : Nat) (pr : Option Addr) (cr : Nat) => [(0, .pointer (some ⟨b, 0, none⟩)), (2, .int .i64 (ad.hL B a : Int)), (3, .int .i64 (ad.hD B a : Int)), (8, .pointer (some ⟨bc, 0, none⟩)), (9, .slice pr l.length cr)]) (fun (l : List Int) (f : Nat) (x : Nat) (pr : Option Addr) (cr : Nat) => Row I3 pr l.length cr l :: HC bc (ad.de B a) :: ao b 223 [.pointer (some ⟨bl, 0, none⟩), .int .i64 sz, .int .i64 mo, .slice po no co, .bool s.ended, .int .i64 0, .int .i64 s.kind, .int .i64 (s.left : Int), .bool s.last, li, di, .int .i64 (s.ay : Int), .int .i64 (s.cx : Int)] :: LW bl B x [] 0 :: F) (fun (l : List Int) (f : Nat) (x : Nat) (pr : Option Addr) (cr : Nat) => ad.fz B (ad.de B a) (ad.dz B a) (ad.dz B a) [] (ad.eo B a) = ad.fz B (ad.de B a) (ad.dz B a) f l x ∧ (ad.dz B a) ≤ f + l.length ∧ l.length ≤ (ad.dz B a) ∧ x ≤ 8 * B.length) (fun (l : List Int) (f : Nat) (x : Nat) (pr : Option Addr) (cr : Nat) => (ad.dz B a) - l.length) (i5 ([]) ((ad.dz B a)) ((ad.eo B a)) (none) (0) ?_ (dp ln) (sub (bD (.cons bX (.cons bX .nil))) hJ)) ?_
     ·exact ⟨rfl, Nat.le_add_right _ _, Nat.zero_le _, hta⟩
     intro l f x pr cr
     rintro ⟨hg, hf, hlt, hx⟩
     refine Ob dk 11 rfl (by omega) ?_
     refine aN rfl (fun h62 => ?_) (fun h62 => ?_)
     ·refine rC dk 3 rfl ?_
      rcases (ad.Al B (ad.de B a) l x) with ⟨e, hs⟩ | ⟨sy, x2, e, hs, hr⟩ | ⟨sy, x2, xx, nn, x3, hs, hr⟩
      ·refine rC dk 7 rfl ?_
       refine oV (ae V.dO rfl dH rfl) ?_
       refine dD ((oG bc (ad.de B a) bl B x [] 0 hy hl hB hx).err hs) V.rH rfl (.cons az (.cons bX .nil)) ?_
       rintro _ _ ⟨hp, rfl⟩
       refine (dT (fu (dT (fu (dT ?_)))))
       exact ev (ad.sG h14 ⟨hq1, hq2⟩ hta hy (hg.trans (ad.oz (by omega) hf (ad.r5 hs)))) hp (aX (.cons az .nil) cC (fun w0 h hh => cR hh))
      ·refine rC dk 1 rfl ?_
       have hsz := ad.pH hy (by rw [ad.iW]; omega) hs
       rw [ad.iW] at hsz
       have hsy : 0 ≤ sy ∧ sy ≤ 18 := by omega
       have hx2 : x2 ≤ 8 * B.length := by omega
       refine rC dk 6 rfl ?_
       refine oV (ae V.dO rfl dH rfl) ?_
       refine ai ((oG bc (ad.de B a) bl B x [] 0 hy hl hB hx).ok hs) V.rH  rfl (.cons az (.cons bX .nil)) rfl ?_
       rintro _ _ ⟨rfl, rfl⟩
       refine oV (aJ rfl) ?_
       refine dD ((EW b bl sz mo po no co li di s B x2 sy pr cr l hsy hl hB hx2 (by omega)).err hr) V.KT rfl (.cons ed (.cons az (.cons az .nil))) ?_
       rintro _ _ ⟨hp, rfl⟩
       refine (dT (fu (dT (fu (dT ?_)))))
       exact ev (ad.sG h14 ⟨hq1, hq2⟩ hta hy (hg.trans (ad.oz (by omega) hf (ad.sa hs hr)))) hp (sub (ar .nil) cC)
      ·refine rC dk 1 rfl ?_
       have hsz := ad.pH hy (by rw [ad.iW]; omega) hs
       rw [ad.iW] at hsz
       have hsy : 0 ≤ sy ∧ sy ≤ 18 := by omega
       have hx2 : x2 ≤ 8 * B.length := by omega
       have hrg := ad.vv hx2 hr
       refine rC dk 6 rfl ?_
       refine oV (ae V.dO rfl dH rfl) ?_
       refine ai ((oG bc (ad.de B a) bl B x [] 0 hy hl hB hx).ok hs) V.rH  rfl (.cons az (.cons bX .nil)) rfl ?_
       rintro _ _ ⟨rfl, rfl⟩
       refine oV (aJ rfl) ?_
       refine ai ((EW b bl sz mo po no co li di s B x2 sy pr cr l hsy hl hB hx2 (by omega)).ok hr) V.KT  rfl (.cons ed (.cons az (.cons az .nil))) rfl ?_
       rintro _ _ ⟨rfl, rfl⟩
       refine rO dk 12 rfl ?_
       refine ai (Cd xx nn (by omega)) V.zG  rfl .nil rfl ?_
       rintro _ _ ⟨p78, c78, rfl, rfl⟩
       refine ef (c := (I3)) V.cQ V.z3 rfl rfl rfl rfl ed (own an) (by omega) rfl ?_
       intro p79 c79
       refine rO dk 3 rfl ?_
       rcases (Nat.lt_or_ge (ad.dz B a) (l.length + nn.toNat)) with hbg | hbg
       ·refine fL dk 6 rfl (by omega) ?_
        refine oV (aA (eH rfl rfl) (by omega)) ?_
        refine dD (iN 4) V.iJ rfl .nil ?_
        rintro _ _ ⟨rfl, rfl⟩
        refine (fu (dT (fu (dT ?_))))
        exact ev (ad.sG h14 ⟨hq1, hq2⟩ hta hy (hg.trans (ad.vG (by omega) hf (ad.mP hs hr) (by rw [List.length_append, List.length_replicate]; omega)))) (PE.no (by decide)) (aX (.cons bX .nil) mw (fun w0 h hh => cR hh))
       ·refine fL dk 6 rfl (by omega) ?_
        refine oV (aY (eH rfl rfl) (by omega)) ?_
        refine ai (kL 4) V.iJ  rfl .nil rfl ?_
        rintro _ _ ⟨rfl, rfl⟩
        refine rO dk 2 rfl ?_
        rw [show l.length + nn.toNat = (l ++ List.replicate nn.toNat xx).length from by rw [List.length_append, List.length_replicate]]
        have hll : (l ++ List.replicate nn.toNat xx).length = l.length + nn.toNat := by rw [List.length_append, List.length_replicate]
        refine j5 (l ++ List.replicate nn.toNat xx) (f - 1) (x3) (_) (_) ?_ (dp ln) (sub (ar (.cons ed (.cons az (.cons az .nil)))) cC)
        exact ⟨⟨hg.trans (ad.uJ (by omega) hf (ad.mP hs hr) (by omega)), by omega, by omega, by omega⟩, by omega⟩
     ·refine rC dk 5 rfl ?_
      rcases (ad.Jw (af.bU (l.take (ad.hL B a)) = 0) (af.bU (l.drop (ad.hL B a)) = 0)) with ⟨hc1, hc2⟩ | ⟨hc1, hc2⟩ | hc1
      ·refine rC dk 1 rfl ?_
       have hlt : l.length = ad.dz B a := by omega
       have hz := hg.trans (ad.mY (B := B) (c := ad.de B a) (f := f) (a := x) (show ad.dz B a ≤ l.length by omega))
       refine z6 (p := pr) (n := l.length) (cap := cr) (l := l) (c := I3) an fun hcap => ?_
       refine lx [pz 0 [] [0], pz 0 [] [0], pz 0 [] [9], pz 0 [] [2], pz 12 [2, 3] [], pz 28 [4] [], pz 0 [] [9], pz 0 [] [2], pz 192 [6, 7] [], pz 508 [8] [], pz 1021 [0] [], pz 2045 [10] [], pz 4093 [11, 5] [], pz 8191 [1] [], pz 16383 [13] [], pz 32767 [14, 9] []] [⟨fun y => Row I3 pr l.length cr l, none, some 5, []⟩, ⟨fun y => HC bc (ad.de B a), none, none, []⟩, ⟨fun y => ao b 223 [.pointer (some ⟨bl, 0, none⟩), .int .i64 sz, .int .i64 mo, .slice po no co, .bool s.ended, .int .i64 0, .int .i64 s.kind, .int .i64 (s.left : Int), .bool s.last, li, di, .int .i64 (s.ay : Int), .int .i64 (s.cx : Int)], none, some 12, []⟩, ⟨fun y => LW bl B x [] 0, none, none, []⟩, ⟨fun y => HC (gx (y 5)) (l.take (ad.hL B a)), some 5, none, []⟩, ⟨fun y => Row I3 pr l.length cr l, some 5, some 9, []⟩, ⟨fun y => HC (gx (y 9)) (l.drop (ad.hL B a)), some 9, none, []⟩, ⟨fun y => Row I3 pr l.length cr l, some 9, none, []⟩, ⟨fun y => ao b 223 [.pointer (some ⟨bl, 0, none⟩), .int .i64 sz, .int .i64 mo, .slice po no co, .bool s.ended, .int .i64 0, .int .i64 s.kind, .int .i64 (s.left : Int), .bool s.last, .pointer (some ⟨gx (y 5), 0, none⟩), di, .int .i64 (s.ay : Int), .int .i64 (s.cx : Int)], some 12, some 15, []⟩, ⟨fun y => ao b 223 [.pointer (some ⟨bl, 0, none⟩), .int .i64 sz, .int .i64 mo, .slice po no co, .bool s.ended, .int .i64 0, .int .i64 s.kind, .int .i64 (s.left : Int), .bool s.last, .pointer (some ⟨gx (y 5), 0, none⟩), .pointer (some ⟨gx (y 9), 0, none⟩), .int .i64 (s.ay : Int), .int .i64 (s.cx : Int)], some 15, none, []⟩] F V.mixed (by kernel_rfl) rfl (fun _ => .refl _) (bV _ (bV _ (bV _ (bV _ (eA _ rfl (by intro y y2 h; simp only [h 5 (.inl rfl)]) (eA _ rfl (by intro y y2 h; rfl) (eA _ rfl (by intro y y2 h; simp only [h 9 (.inl rfl)]) (eA _ rfl (by intro y y2 h; rfl) (eA _ rfl (by intro y y2 h; simp only [h 5 (.inr (by decide))]) (eA _ rfl (by intro y y2 h; simp only [h 5 (.inr (by decide)), h 9 (.inr (by decide))]) ir)))))))))) ?_
       iterate 4 refine nM ?_
       refine nV (fun y hA L => j8 (ad.hL B a) _ V.cQ rfl ⟨_, rfl⟩ rfl (by omega) (by omega)) ?_
       refine gN (fun y v => .pointer (some ⟨gx v, 0, none⟩)) (fun y v => True) _ _ (fun y v => [HC (gx v) (l.take (ad.hL B a)), Row I3 pr l.length cr l]) _ (fun y => rfl) (fun y => rfl) (fun y => rfl) (fun y => rfl) (fun y FF hA => r1 (A := fun z => HC z (l.take (ad.hL B a))) (Post := [Row I3 pr l.length cr l]) (mH pr (ad.hL B a) cr (l.take (ad.hL B a)) (Row I3 pr l.length cr l) (by (rw [List.length_take]; omega)) (fun _ _ hh => rp rfl (by omega) hh) hc1) V.oH rfl (ar .nil)) (by intros; rfl) (by intros; rfl) (by intros; rfl) (by intro y y2 h; simp only [h 5 (.inl rfl)]) (by intro y y2 h; rfl) ?_
       iterate 2 refine nM ?_
       refine nV (fun y hA L => dQ (ad.hL B a) _ _ V.cQ rfl ⟨_, rfl⟩ ⟨rfl, rfl⟩ rfl (by omega) (by omega) (by omega)) ?_
       refine gN (fun y v => .pointer (some ⟨gx v, 0, none⟩)) (fun y v => True) _ _ (fun y v => [HC (gx v) (l.drop (ad.hL B a)), Row I3 pr l.length cr l]) _ (fun y => rfl) (fun y => rfl) (fun y => rfl) (fun y => rfl) (fun y FF hA => r1 (A := fun z => HC z (l.drop (ad.hL B a))) (Post := [Row I3 pr l.length cr l]) (mH (eh pr (ad.hL B a) cr 1) (l.length - (ad.hL B a)) (cr - (ad.hL B a)) (l.drop (ad.hL B a)) (Row I3 pr l.length cr l) (by rw [List.length_drop]) (fun _ _ hh => wK rfl (by omega) hcap hh) hc2) V.oH rfl (ar .nil)) (by intros; rfl) (by intros; rfl) (by intros; rfl) (by intro y y2 h; simp only [h 9 (.inl rfl)]) (by intro y y2 h; rfl) ?_
       refine nN ?_
       refine nG V.xq ?_
       refine nE (fun y FF hA => du (bT V.qy rfl rfl rfl (by exact cZ) (by exact Nat.le_of_ble_eq_true rfl) rfl) ⟨rfl, .refl _⟩) ?_
       refine nN ?_
       refine nG V.tF ?_
       refine nE (fun y FF hA => du (bT V.qy rfl rfl rfl (by exact cZ) (by exact Nat.le_of_ble_eq_true rfl) rfl) ⟨rfl, .refl _⟩) ?_
       refine aU ?_
       intro y hA
       clear hA
       refine ba ?_
       refine bZ _ (.cons (d := 9) rfl (.nil _)) ?_
       refine bP (M := HC bc (ad.de B a) :: LW bl B x [] 0 :: HC (gx (y 5)) (l.take (ad.hL B a)) :: HC (gx (y 9)) (l.drop (ad.hL B a)) :: Row I3 pr l.length cr l :: ao b 223 [.pointer (some ⟨bl, 0, none⟩), .int .i64 sz, .int .i64 mo, .slice po no co, .bool s.ended, .int .i64 0, .int .i64 s.kind, .int .i64 (s.left : Int), .bool s.last, .pointer (some ⟨gx (y 5), 0, none⟩), .pointer (some ⟨gx (y 9), 0, none⟩), .int .i64 (s.ay : Int), .int .i64 (s.cx : Int)] :: F) (fun _ _ h => h) ?_
       generalize (gx (y 5)) = q92
       generalize (gx (y 9)) = q96
       rcases (Classical.em (l.getD 256 0 = 0)) with hend | hend
       ·have hnn := ad.yd hc1 256
        rw [ad.getD_take (show 256 < ad.hL B a by omega)] at hnn
        refine rC dk 2 rfl ?_
        refine oV (xI V.cQ (own jz)) ?_
        refine oV (xL V.s3 (own jz)) ?_
        refine oV (aA (a8 rfl rfl) (by rw [show I3.g l 256 = l.getD 256 0 from rfl]; omega)) ?_
        refine dD (iN 4) V.iJ rfl .nil ?_
        rintro _ _ ⟨rfl, rfl⟩
        skip
        exact ev (ad.sU h14 ⟨hq1, hq2⟩ hta hy hz (.inr (.inr hend))) (PE.no (by decide)) (aX (.cons j6 .nil) E6 (fun w0 h hh => cR hh))
       ·have hnn := ad.yd hc1 256
        rw [ad.getD_take (show 256 < ad.hL B a by omega)] at hnn
        refine rC dk 2 rfl ?_
        refine oV (xI V.cQ (own jz)) ?_
        refine oV (xL V.s3 (own jz)) ?_
        refine oV (aY (a8 rfl rfl) (by rw [show I3.g l 256 = l.getD 256 0 from rfl]; omega)) ?_
        refine ai (kL 4) V.iJ  rfl .nil rfl ?_
        rintro _ _ ⟨rfl, rfl⟩
        refine cB ?_
        exact iu (ad.BQ h14 ⟨hq1, hq2⟩ hta hy hz hc1 hc2 hend) fH ⟨_, _, rfl, rfl⟩ (sub (.cons j6 (.cons az (.cons az (.cons az .nil)))) hJ)
      ·refine rC dk 1 rfl ?_
       have hlt : l.length = ad.dz B a := by omega
       have hz := hg.trans (ad.mY (B := B) (c := ad.de B a) (f := f) (a := x) (show ad.dz B a ≤ l.length by omega))
       refine z6 (p := pr) (n := l.length) (cap := cr) (l := l) (c := I3) an fun hcap => ?_
       refine lx [pz 0 [] [0], pz 0 [] [0], pz 0 [] [9], pz 0 [] [2], pz 12 [2, 3] [], pz 28 [4] [], pz 0 [] [9], pz 0 [] [2], pz 192 [6, 7] [], pz 508 [8] [], pz 1021 [0] [], pz 2045 [10] [], pz 4093 [11, 5] [], pz 8191 [1] [], pz 16383 [13] [], pz 32767 [14, 9] []] [⟨fun y => Row I3 pr l.length cr l, none, some 5, []⟩, ⟨fun y => HC bc (ad.de B a), none, none, []⟩, ⟨fun y => ao b 223 [.pointer (some ⟨bl, 0, none⟩), .int .i64 sz, .int .i64 mo, .slice po no co, .bool s.ended, .int .i64 0, .int .i64 s.kind, .int .i64 (s.left : Int), .bool s.last, li, di, .int .i64 (s.ay : Int), .int .i64 (s.cx : Int)], none, none, [9]⟩, ⟨fun y => LW bl B x [] 0, none, none, []⟩, ⟨fun y => HC (gx (y 5)) (l.take (ad.hL B a)), some 5, none, []⟩, ⟨fun y => Row I3 pr l.length cr l, some 5, none, [9]⟩] F V.mixed (by kernel_rfl) rfl (fun _ => .refl _) (bV _ (bV _ (bV _ (bV _ (eA _ rfl (by intro y y2 h; simp only [h 5 (.inl rfl)]) (eA _ rfl (by intro y y2 h; rfl) ir)))))) ?_
       iterate 4 refine nM ?_
       refine nV (fun y hA L => j8 (ad.hL B a) _ V.cQ rfl ⟨_, rfl⟩ rfl (by omega) (by omega)) ?_
       refine gN (fun y v => .pointer (some ⟨gx v, 0, none⟩)) (fun y v => True) _ _ (fun y v => [HC (gx v) (l.take (ad.hL B a)), Row I3 pr l.length cr l]) _ (fun y => rfl) (fun y => rfl) (fun y => rfl) (fun y => rfl) (fun y FF hA => r1 (A := fun z => HC z (l.take (ad.hL B a))) (Post := [Row I3 pr l.length cr l]) (mH pr (ad.hL B a) cr (l.take (ad.hL B a)) (Row I3 pr l.length cr l) (by (rw [List.length_take]; omega)) (fun _ _ hh => rp rfl (by omega) hh) hc1) V.oH rfl (ar .nil)) (by intros; rfl) (by intros; rfl) (by intros; rfl) (by intro y y2 h; simp only [h 5 (.inl rfl)]) (by intro y y2 h; rfl) ?_
       iterate 2 refine nM ?_
       refine nV (fun y hA L => dQ (ad.hL B a) _ _ V.cQ rfl ⟨_, rfl⟩ ⟨rfl, rfl⟩ rfl (by omega) (by omega) (by omega)) ?_
       refine bH (undef) _ _ (fun y => rfl) rfl (fun y => rfl) (fun y FF hA => fU (ux (eh pr (ad.hL B a) cr 1) (l.length - (ad.hL B a)) (cr - (ad.hL B a)) (l.drop (ad.hL B a)) (Row I3 pr l.length cr l) (by rw [List.length_drop]) (fun _ _ hh => wK rfl (by omega) hcap hh) hc2) V.oH rfl (.cons az .nil) (by rintro _ _ ⟨hp, rfl⟩; exact lf (ad.sU h14 ⟨hq1, hq2⟩ hta hy hz (.inr (.inl hc2))) hp (aX (ar .nil) (by exact uH (M := FF) (F := F)) (fun w0 h hh => cR hh)))) ?_
       refine bH (.bool true) _ _ (fun y => rfl) rfl (fun y => rfl) (fun y FF hA => (dJ.fact (hA 9 (by decide)) (q := fun _ => False) rfl).elim) ?_
       refine bH (.bool true) _ _ (fun y => rfl) rfl (fun y => rfl) (fun y FF hA => (dJ.fact (hA 9 (by decide)) (q := fun _ => False) rfl).elim) ?_
       refine bH (.bool true) _ _ (fun y => rfl) rfl (fun y => rfl) (fun y FF hA => (dJ.fact (hA 9 (by decide)) (q := fun _ => False) rfl).elim) ?_
       refine bH (.bool true) _ _ (fun y => rfl) rfl (fun y => rfl) (fun y FF hA => (dJ.fact (hA 9 (by decide)) (q := fun _ => False) rfl).elim) ?_
       refine bH (.bool true) _ _ (fun y => rfl) rfl (fun y => rfl) (fun y FF hA => (dJ.fact (hA 9 (by decide)) (q := fun _ => False) rfl).elim) ?_
       refine bH (.bool true) _ _ (fun y => rfl) rfl (fun y => rfl) (fun y FF hA => (dJ.fact (hA 9 (by decide)) (q := fun _ => False) rfl).elim) ?_
       refine aU ?_
       intro y hA
       exact (dJ.fact (hA 9 (by exact Nat.le_of_ble_eq_true rfl)) (q := fun _ => False) rfl).elim
      ·refine rC dk 1 rfl ?_
       have hlt : l.length = ad.dz B a := by omega
       have hz := hg.trans (ad.mY (B := B) (c := ad.de B a) (f := f) (a := x) (show ad.dz B a ≤ l.length by omega))
       refine z6 (p := pr) (n := l.length) (cap := cr) (l := l) (c := I3) an fun hcap => ?_
       refine wN [pz 0 [] [0], pz 0 [] [0], pz 0 [] [9], pz 0 [] [2], pz 12 [2, 3] [], pz 28 [4] [], pz 0 [] [9], pz 0 [] [2], pz 192 [6, 7] [], pz 508 [8] [], pz 1021 [0] [], pz 2045 [10] [], pz 4093 [11, 5] [], pz 8191 [1] [], pz 16383 [13] [], pz 32767 [14, 9] []] [⟨fun y => Row I3 pr l.length cr l, none, none, [5]⟩, ⟨fun y => HC bc (ad.de B a), none, none, []⟩, ⟨fun y => ao b 223 [.pointer (some ⟨bl, 0, none⟩), .int .i64 sz, .int .i64 mo, .slice po no co, .bool s.ended, .int .i64 0, .int .i64 s.kind, .int .i64 (s.left : Int), .bool s.last, li, di, .int .i64 (s.ay : Int), .int .i64 (s.cx : Int)], none, none, [5]⟩, ⟨fun y => LW bl B x [] 0, none, none, []⟩] F V.mixed ?_
       iterate 4 refine nM ?_
       refine nV (fun y hA L => j8 (ad.hL B a) _ V.cQ rfl ⟨_, rfl⟩ rfl (by omega) (by omega)) ?_
       refine bH (undef) _ _ (fun y => rfl) rfl (fun y => rfl) (fun y FF hA => fU (ux pr (ad.hL B a) cr (l.take (ad.hL B a)) (Row I3 pr l.length cr l) (by (rw [List.length_take]; omega)) (fun _ _ hh => rp rfl (by omega) hh) hc1) V.oH rfl (ar .nil) (by rintro _ _ ⟨hp, rfl⟩; exact lf (ad.sU h14 ⟨hq1, hq2⟩ hta hy hz (.inl hc1)) hp (aX (ar .nil) (by exact uH (M := FF) (F := F)) (fun w0 h hh => cR hh)))) ?_
       iterate 2 refine nM ?_
       refine nV (fun y hA L => dQ (ad.hL B a) _ _ V.cQ rfl ⟨_, rfl⟩ ⟨rfl, rfl⟩ rfl (by omega) (by omega) (by omega)) ?_
       refine bH (.bool true) _ _ (fun y => rfl) rfl (fun y => rfl) (fun y FF hA => (dJ.fact (hA 5 (by decide)) (q := fun _ => False) rfl).elim) ?_
       refine bH (.bool true) _ _ (fun y => rfl) rfl (fun y => rfl) (fun y FF hA => (dJ.fact (hA 5 (by decide)) (q := fun _ => False) rfl).elim) ?_
       refine bH (.bool true) _ _ (fun y => rfl) rfl (fun y => rfl) (fun y FF hA => (dJ.fact (hA 5 (by decide)) (q := fun _ => False) rfl).elim) ?_
       refine bH (.bool true) _ _ (fun y => rfl) rfl (fun y => rfl) (fun y FF hA => (dJ.fact (hA 5 (by decide)) (q := fun _ => False) rfl).elim) ?_
       refine bH (.bool true) _ _ (fun y => rfl) rfl (fun y => rfl) (fun y FF hA => (dJ.fact (hA 5 (by decide)) (q := fun _ => False) rfl).elim) ?_
       refine bH (.bool true) _ _ (fun y => rfl) rfl (fun y => rfl) (fun y FF hA => (dJ.fact (hA 5 (by decide)) (q := fun _ => False) rfl).elim) ?_
       refine bH (.bool true) _ _ (fun y => rfl) rfl (fun y => rfl) (fun y FF hA => (dJ.fact (hA 5 (by decide)) (q := fun _ => False) rfl).elim) ?_
       refine aU ?_
       intro y hA
       exact (dJ.fact (hA 5 (by exact Nat.le_of_ble_eq_true rfl)) (q := fun _ => False) rfl).elim
    ·refine rC dk 1 rfl ?_
     have hkC : k = ad.hC B a := by omega
     rw [show ad.iG B (a + 14) k = ad.de B a from by rw [hkC]; exact (ad.vS B a).symm, show a + 14 + 3 * k = ad.eo B a from by omega]
     have hta : ad.eo B a ≤ 8 * B.length := by omega
     refine rC dk 2 rfl ?_
     refine dD (ux p37 19 c37 (ad.de B a) (Row I3 p37 19 c37 (ad.de B a)) (ad.iW B a).symm (fun _ _ hh => ta (ad.iW B a).symm hh) hy) V.oH rfl (ar .nil) ?_
     rintro _ _ ⟨hp, rfl⟩
     refine (dT ?_)
     exact ev (ad.Cf h14 ⟨hq1, hq2⟩ hta hy) hp (aX (.cons az .nil) hJ (fun w0 h hh => cR hh))
  ·refine rC dk 1 rfl ?_
   rw [he1, he2, he3]
   refine rC dk 2 rfl ?_
   refine oV (aY (eH rfl rfl) (by omega)) ?_
   refine rO dk 2 rfl ?_
   refine ag rfl ?_
   refine oV (aA (eH rfl rfl) (by omega)) ?_
   refine oV (lJ rfl rfl) ?_
   refine dD (iN 4) V.iJ rfl .nil ?_
   rintro _ _ ⟨rfl, rfl⟩
   refine (dT ?_)
   exact ev (ad.vp h14 (by omega)) (PE.no (by decide)) (aX (ar .nil) cC (fun w0 h hh => cR hh))
  ·refine rC dk 1 rfl ?_
   rw [he1, he2, he3]
   refine rC dk 2 rfl ?_
   refine oV (aA (eH rfl rfl) (by omega)) ?_
   refine rO dk 4 rfl ?_
   refine dD (iN 4) V.iJ rfl .nil ?_
   rintro _ _ ⟨rfl, rfl⟩
   refine (dT ?_)
   exact ev (ad.vp h14 (by omega)) (PE.no (by decide)) (aX (ar .nil) cC (fun w0 h hh => cR hh))
end Go.Proofs.YtmaiakpjgomnpaaGreat
namespace Go.Sl
def CD (li di : Value) (s : ad.St) : ab := fun w0 h => s.kind ≤ 0 ∨ ∃ l d, li = .pointer (some ⟨l, 0, none⟩) ∧ di = .pointer (some ⟨d, 0, none⟩) ∧ dg w0 [HC l s.lits, HC d s.eM] h
structure Pv where
  li : Value
  di : Value
def MM (b bl : Nat) (sz mo : Int) (B : List Int) (s : ad.St) : ab := fun w0 h => ∃ i : Pv, True ∧ dg w0 [MS b bl sz mo i.li i.di s, LW bl B s.at_ [] 0, CD i.li i.di s] h
theorem uE {w0 : World} {Bs : List ab} {A : ab} {h : Hp} (hA : ∀ h, dg w0 Bs h → A w0 h) (hh : dg w0 Bs h) : dg w0 [A] h := ⟨h, fun _ => none, fun _ => .inr rfl, Hp.le_refl _, (fun _ _ e => by cases e), hA h hh, trivial⟩
theorem oK {w0 : World} {X : ab} {L L' : List ab} {h : Hp} (k : ∀ h, dg w0 L h → dg w0 L' h) (hh : dg w0 (X :: L) h) : dg w0 (X :: L') h := by
  obtain ⟨h1, h2, a, b, c, d, e⟩ := hh
  exact ⟨h1, h2, a, b, c, d, k h2 e⟩
theorem nw {b bl : Nat} {sz mo : Int} {B : List Int} {s : ad.St} {li di : Value} {w0 : World} {h : Hp} (hk : s.kind ≤ 0) (hh : dg w0 [MS b bl sz mo li di s, LW bl B s.at_ [] 0] h) : MM b bl sz mo B s w0 h :=
  ⟨⟨li, di⟩, trivial, oK (fun h hh => oK (fun h hh => uE (fun h _ => .inl hk) hh) hh) hh⟩
theorem l7 {b bl l d : Nat} {sz mo : Int} {B : List Int} {s : ad.St} {w0 : World} {h : Hp} (hh : dg w0 [MS b bl sz mo (.pointer (some ⟨l, 0, none⟩)) (.pointer (some ⟨d, 0, none⟩)) s, LW bl B s.at_ [] 0, HC l s.lits, HC d s.eM] h) : MM b bl sz mo B s w0 h :=
  ⟨⟨_, _⟩, trivial, oK (fun h hh => oK (fun h hh => uE (fun h hh => .inr ⟨l, d, rfl, rfl, hh⟩) hh) hh) hh⟩
theorem fp {b bl : Nat} {sz mo : Int} {B : List Int} {s : ad.St} {li di : Value} {w0 : World} {h : Hp} (hh : dg w0 [MS b bl sz mo li di s, LW bl B s.at_ [] 0, CD li di s] h) : MM b bl sz mo B s w0 h := ⟨⟨li, di⟩, trivial, hh⟩
theorem yY {li di : Value} {s : ad.St} {w0 : World} {h : Hp} (hk : 0 < s.kind) (hh : CD li di s w0 h) : ∃ i : Nat × Nat, (li = .pointer (some ⟨i.1, 0, none⟩) ∧ di = .pointer (some ⟨i.2, 0, none⟩)) ∧ dg w0 [HC i.1 s.lits, HC i.2 s.eM] h := by
  rcases hh with hh | ⟨l, d, h1, h2, h3⟩
  · exact absurd hk (by omega)
  · exact ⟨(l, d), ⟨h1, h2⟩, h3⟩
theorem aE.fold {P : Program} {f : FuncId} {args : List Value} {A : ab} {Bs : List ab} {Post : Ending → List ab → Prop} (h : aE P f args [A] Post) (hA : ∀ w0 h, dg w0 Bs h → A w0 h) : aE P f args Bs Post := fun w0 F w hi => h w0 F w (hi.cls (hA w0))
end Go.Sl
namespace Go.Proofs.YtmaiakpjgomnpaaGreat
open Go.Sl 
theorem cT : dR Tryz.prog ⟨[], [(223, 0, 0), (223, 6, 6), (223, 7, 7), (223, 8, 8)]⟩ = true := by kernel_rfl
attribute [local irreducible] af.bU af.tk af.ord af.cK af.words af.c9 ad.iG ad.de ad.dz ad.eo ad.hL ad.hD ad.hC ad.fz ad.told ad.fT ad.jo ad.rep ad.fo ad.eG ad.sym ad.dG aj.aS ad.eY ad.dM
set_option maxHeartbeats 2000000 in
theorem wc (b bl : Nat) (sz mo : Int) (po : Option Addr) (no co : Nat) (li di : Value) (s : ad.St) (B : List Int) (a : Nat) (sy : Int) (h0 : 0 ≤ sy ∧ sy < 1000) (hl : B.length < 500000000) (hB : aj.av B) (ha : a ≤ 8 * B.length) : aE Tryz.prog 202 [.pointer (some ⟨b, 0, none⟩), .int .i64 sy] [ao b 223 [.pointer (some ⟨bl, 0, none⟩), .int .i64 sz, .int .i64 mo, .slice po no co, .bool s.ended, .int .i64 0, .int .i64 s.kind, .int .i64 (s.left : Int), .bool s.last, li, di, .int .i64 (s.ay : Int), .int .i64 (s.cx : Int)], LW bl B a [] 0] (iE (ad.fo B sy a) (fun x v G => v = .int .i64 x.1 ∧ G = [ao b 223 [.pointer (some ⟨bl, 0, none⟩), .int .i64 sz, .int .i64 mo, .slice po no co, .bool s.ended, .int .i64 0, .int .i64 s.kind, .int .i64 (s.left : Int), .bool s.last, li, di, .int .i64 (s.ay : Int), .int .i64 (s.cx : Int)], LW bl B x.2 [] 0]) [MX b bl sz mo]) := by
 refine au [(0, _), (1, _)] Tryz.func202 rfl Tryz.ntmps202 rfl rfl ?_
 intro w0 F
 refine rT cT 5 rfl ?_
 rcases (Classical.em (sy < 29)) with hq | hq
 ·refine rC cT 3 rfl ?_
  refine oV (aY (bo rfl rfl) hq) ?_
  refine ai (kL 4) V.iJ  rfl .nil rfl ?_
  rintro _ _ ⟨rfl, rfl⟩
  refine rO cT 11 rfl ?_
  refine aN rfl (fun h9 => ?_) (fun h9 => ?_)
  ·refine fL cT 10 rfl (by omega) ?_
   exact kG (x := (3 + sy, a)) (ad.xN h0.1 (by omega) ha) (aB rfl) ⟨rfl, rfl⟩ (sub (bD .nil) aw)
  ·refine rC cT 7 rfl ?_
   refine aN rfl (fun h14 => ?_) (fun h14 => ?_)
   ·refine rC cT 8 rfl ?_
    exact kG (x := (258, a)) (ad.xQ (by omega) ha) (aB rfl) ⟨rfl, rfl⟩ (sub (bD .nil) aw)
   ·refine rC cT 6 rfl ?_
    refine oV (fR rfl rfl (by omega) (jH (by omega) (by omega) (by omega))) ?_
    refine cS cT 4 rfl (by omega) ?_
    rcases (Nat.lt_or_ge (8 * B.length) (a + (ad.gF sy))) with hx | hx
    ·refine rC cT 1 rfl ?_
     obtain ⟨hk1, hk2, hk3⟩ := ad.vF (s := sy) (by omega) (by omega)
     have hsh := ad.l9 (x := 4 + sy % 4) (n := ad.gF sy) (by omega) (by omega) (by omega) rfl
     have hnb := aj.cF B a (ad.gF sy)
     have hnc := aj.qS (show ad.gF sy ≤ 24 by omega)
     rw [hk1]
     refine wN [pz 0 [] [1], pz 1 [0] [], pz 3 [1] [], pz 0 [] [5], pz 15 [2, 3] [], pz 31 [4] [], pz 0 [] [0], pz 64 [6] [], pz 192 [7] [], pz 448 [8] [], pz 0 [] [5], pz 1984 [9, 10] [], pz 4095 [5, 11] [], pz 8191 [12] []] [⟨fun y => ao b 223 [.pointer (some ⟨bl, 0, none⟩), .int .i64 sz, .int .i64 mo, .slice po no co, .bool s.ended, .int .i64 0, .int .i64 s.kind, .int .i64 (s.left : Int), .bool s.last, li, di, .int .i64 (s.ay : Int), .int .i64 (s.cx : Int)], none, none, [9, 11]⟩, ⟨fun y => LW bl B a [] 0, none, none, [11]⟩] F V.mixed ?_
     refine nM ?_
     refine nV (fun y hA L => hG rfl rfl (by omega) (jE (by omega))) ?_
     refine nV (fun y hA L => dj rfl rfl wI) ?_
     refine nM ?_
     refine nV (fun y hA L => fX (r := (4 + sy % 4) * 2 ^ ad.gF sy) rfl rfl (by omega) hsh.1) ?_
     refine nV (fun y hA L => dj rfl rfl wI) ?_
     refine nM ?_
     refine nN ?_
     refine nG V.eJ ?_
     refine nR (fun y FF hA => ae V.dO rfl an rfl) ?_
     refine nM ?_
     refine bH (undef) _ _ (fun y => rfl) rfl (fun y => rfl) (fun y FF hA => fU (gv bl B a [] 0 (ad.gF sy) hl hB (by omega) (by omega) (by omega)) V.fe rfl (.cons az .nil) (by rintro _ _ ⟨rfl, rfl⟩; exact lf (ad.uW (by omega) (by omega) hx) PE.end_ (aX (.cons az .nil) (by exact vW (M := FF) (F := F)) (fun w0 h hh => cR hh)))) ?_
     refine bH (.bool true) _ _ (fun y => rfl) rfl (fun y => rfl) (fun y FF hA => (dJ.fact (hA 11 (by decide)) (q := fun _ => False) rfl).elim) ?_
     refine bH (.bool true) _ _ (fun y => rfl) rfl (fun y => rfl) (fun y FF hA => (dJ.fact (hA 11 (by decide)) (q := fun _ => False) rfl).elim) ?_
     refine aU ?_
     intro y hA
     exact (dJ.fact (hA 11 (by exact Nat.le_of_ble_eq_true rfl)) (q := fun _ => False) rfl).elim
    ·refine rC cT 1 rfl ?_
     obtain ⟨hk1, hk2, hk3⟩ := ad.vF (s := sy) (by omega) (by omega)
     have hsh := ad.l9 (x := 4 + sy % 4) (n := ad.gF sy) (by omega) (by omega) (by omega) rfl
     have hnb := aj.cF B a (ad.gF sy)
     have hnc := aj.qS (show ad.gF sy ≤ 24 by omega)
     rw [hk1]
     refine wN [pz 0 [] [1], pz 1 [0] [], pz 3 [1] [], pz 0 [] [5], pz 15 [2, 3] [], pz 31 [4] [], pz 0 [] [0], pz 64 [6] [], pz 192 [7] [], pz 448 [8] [], pz 0 [] [5], pz 1984 [9, 10] [], pz 4095 [5, 11] [], pz 8191 [12] []] [⟨fun y => ao b 223 [.pointer (some ⟨bl, 0, none⟩), .int .i64 sz, .int .i64 mo, .slice po no co, .bool s.ended, .int .i64 0, .int .i64 s.kind, .int .i64 (s.left : Int), .bool s.last, li, di, .int .i64 (s.ay : Int), .int .i64 (s.cx : Int)], none, none, [9]⟩, ⟨fun y => LW bl B a [] 0, none, some 11, []⟩, ⟨fun y => LW bl B (a + (ad.gF sy)) [] 0, some 11, none, []⟩] F V.mixed ?_
     refine nM ?_
     refine nV (fun y hA L => hG rfl rfl (by omega) (jE (by omega))) ?_
     refine nV (fun y hA L => dj rfl rfl wI) ?_
     refine nM ?_
     refine nV (fun y hA L => fX (r := (4 + sy % 4) * 2 ^ ad.gF sy) rfl rfl (by omega) hsh.1) ?_
     refine nV (fun y hA L => dj rfl rfl wI) ?_
     refine nM ?_
     refine nN ?_
     refine nG V.eJ ?_
     refine nR (fun y FF hA => ae V.dO rfl an rfl) ?_
     refine nM ?_
     refine nE (fun y FF hA => bK (Post := [LW bl B (a + (ad.gF sy)) [] 0]) (fK bl B a [] 0 (ad.gF sy) hl hB (by omega) (by omega)) V.fe rfl (ar .nil) (fun v G h => by rcases h with ⟨rfl, rfl⟩; exact ⟨rfl, .refl _⟩)) ?_
     refine nV (fun y hA L => dj rfl rfl wI) ?_
     refine nA ?_
     refine aU ?_
     intro y hA
     clear hA
     refine ba ?_
     refine bZ _ (.cons (d := 4) rfl (.nil _)) ?_
     refine bP (M := ao b 223 [.pointer (some ⟨bl, 0, none⟩), .int .i64 sz, .int .i64 mo, .slice po no co, .bool s.ended, .int .i64 0, .int .i64 s.kind, .int .i64 (s.left : Int), .bool s.last, li, di, .int .i64 (s.ay : Int), .int .i64 (s.cx : Int)] :: LW bl B (a + (ad.gF sy)) [] 0 :: F) (fun _ _ h => h) ?_
     refine rC cT 1 rfl ?_
     exact kG (x := (3 + (4 + sy % 4) * 2 ^ ad.gF sy + aj.aS B a (ad.gF sy), a + ad.gF sy)) (ad.AQ (by omega) (by omega) hx) (aB rfl) ⟨rfl, rfl⟩ (sub (bD .nil) aw)
 ·refine rC cT 3 rfl ?_
  refine oV (aA (bo rfl rfl) hq) ?_
  refine dD (iN 4) V.iJ rfl .nil ?_
  rintro _ _ ⟨rfl, rfl⟩
  refine (dT ?_)
  exact ev (ad.AL (by omega)) (PE.no (by decide)) (aX (ar .nil) cC (fun w0 h hh => cR hh))
set_option maxHeartbeats 2000000 in
theorem CH (b bl : Nat) (sz mo : Int) (po : Option Addr) (no co : Nat) (li : Value) (dd : Nat) (s : ad.St) (B ds : List Int) (a : Nat) (hE : af.bU ds = 0) (hd : 0 < ds.length) (hl : B.length < 500000000) (hB : aj.av B) (ha : a ≤ 8 * B.length) : aE Tryz.prog 203 [.pointer (some ⟨b, 0, none⟩)] [ao b 223 [.pointer (some ⟨bl, 0, none⟩), .int .i64 sz, .int .i64 mo, .slice po no co, .bool s.ended, .int .i64 0, .int .i64 s.kind, .int .i64 (s.left : Int), .bool s.last, li, (.pointer (some ⟨dd, 0, none⟩)), .int .i64 (s.ay : Int), .int .i64 (s.cx : Int)], HC dd ds, LW bl B a [] 0] (iE (ad.eG B ds a) (fun x v G => v = .int .i64 x.1 ∧ G = [ao b 223 [.pointer (some ⟨bl, 0, none⟩), .int .i64 sz, .int .i64 mo, .slice po no co, .bool s.ended, .int .i64 0, .int .i64 s.kind, .int .i64 (s.left : Int), .bool s.last, li, (.pointer (some ⟨dd, 0, none⟩)), .int .i64 (s.ay : Int), .int .i64 (s.cx : Int)], HC dd ds, LW bl B x.2 [] 0]) [MX b bl sz mo]) := by
 refine au [(0, _)] Tryz.func203 rfl Tryz.ntmps203 rfl rfl ?_
 intro w0 F
 have hdl := ad.vR hE
 refine rT cT 5 rfl ?_
 rcases (ad.vQ (B := B) (ls := ds) (a := a) hE hd) with ⟨e, hs⟩ | ⟨sy, a3, hs, h0, h1, h2, h3⟩
 ·refine rC cT 1 rfl ?_
  refine wN [pz 0 [] [0], pz 1 [0] [], pz 3 [1] [], pz 7 [2] [], pz 0 [] [0], pz 16 [4] [], pz 48 [5] [], pz 112 [6] [], pz 255 [3, 7] [], pz 511 [8] []] [⟨fun y => ao b 223 [.pointer (some ⟨bl, 0, none⟩), .int .i64 sz, .int .i64 mo, .slice po no co, .bool s.ended, .int .i64 0, .int .i64 s.kind, .int .i64 (s.left : Int), .bool s.last, li, (.pointer (some ⟨dd, 0, none⟩)), .int .i64 (s.ay : Int), .int .i64 (s.cx : Int)], none, none, [3, 7, 8]⟩, ⟨fun y => HC dd ds, none, none, [8]⟩, ⟨fun y => LW bl B a [] 0, none, none, [8]⟩] F V.mixed ?_
  refine nM ?_
  refine nN ?_
  refine nG V.tF ?_
  refine nR (fun y FF hA => ae V.qy rfl an rfl) ?_
  refine nM ?_
  refine nN ?_
  refine nG V.eJ ?_
  refine nR (fun y FF hA => ae V.dO rfl an rfl) ?_
  refine bH (undef) _ _ (fun y => rfl) rfl (fun y => rfl) (fun y FF hA => fU ((oG dd ds bl B a [] 0 hE hl hB ha).err hs) V.rH rfl (.cons az (.cons az .nil)) (by rintro _ _ ⟨hp, rfl⟩; exact lf (ad.CE hs) hp (aX (ar .nil) (by exact uH (M := FF) (F := F)) (fun w0 h hh => cR hh)))) ?_
  refine bH (.bool true) _ _ (fun y => rfl) rfl (fun y => rfl) (fun y FF hA => (dJ.fact (hA 8 (by decide)) (q := fun _ => False) rfl).elim) ?_
  refine aU ?_
  intro y hA
  exact (dJ.fact (hA 8 (by exact Nat.le_of_ble_eq_true rfl)) (q := fun _ => False) rfl).elim
 ·refine rC cT 1 rfl ?_
  refine wN [pz 0 [] [0], pz 1 [0] [], pz 3 [1] [], pz 7 [2] [], pz 0 [] [0], pz 16 [4] [], pz 48 [5] [], pz 112 [6] [], pz 255 [3, 7] [], pz 511 [8] []] [⟨fun y => ao b 223 [.pointer (some ⟨bl, 0, none⟩), .int .i64 sz, .int .i64 mo, .slice po no co, .bool s.ended, .int .i64 0, .int .i64 s.kind, .int .i64 (s.left : Int), .bool s.last, li, (.pointer (some ⟨dd, 0, none⟩)), .int .i64 (s.ay : Int), .int .i64 (s.cx : Int)], none, none, [3, 7]⟩, ⟨fun y => HC dd ds, none, some 8, []⟩, ⟨fun y => LW bl B a [] 0, none, some 8, []⟩, ⟨fun y => HC dd ds, some 8, none, []⟩, ⟨fun y => LW bl B a3 [] 0, some 8, none, []⟩] F V.mixed ?_
  refine nM ?_
  refine nN ?_
  refine nG V.tF ?_
  refine nR (fun y FF hA => ae V.qy rfl an rfl) ?_
  refine nM ?_
  refine nN ?_
  refine nG V.eJ ?_
  refine nR (fun y FF hA => ae V.dO rfl an rfl) ?_
  refine nE (fun y FF hA => bK (Post := [HC dd ds, LW bl B a3 [] 0]) ((oG dd ds bl B a [] 0 hE hl hB ha).ok hs) V.rH rfl (bD .nil) (fun v G h => by rcases h with ⟨rfl, rfl⟩; exact ⟨rfl, .refl _⟩)) ?_
  refine nA ?_
  refine aU ?_
  intro y hA
  clear hA
  refine ba ?_
  refine bZ _ (.cons (d := 0) rfl (.cons (d := 3) rfl (.nil _))) ?_
  refine bP (M := ao b 223 [.pointer (some ⟨bl, 0, none⟩), .int .i64 sz, .int .i64 mo, .slice po no co, .bool s.ended, .int .i64 0, .int .i64 s.kind, .int .i64 (s.left : Int), .bool s.last, li, (.pointer (some ⟨dd, 0, none⟩)), .int .i64 (s.ay : Int), .int .i64 (s.cx : Int)] :: HC dd ds :: LW bl B a3 [] 0 :: F) (fun _ _ h => h) ?_
  rcases (Classical.em (sy < 30)) with hq | hq
  ·refine rC cT 3 rfl ?_
   refine oV (aY (bo rfl rfl) hq) ?_
   refine ai (kL 4) V.iJ  rfl .nil rfl ?_
   rintro _ _ ⟨rfl, rfl⟩
   refine rO cT 9 rfl ?_
   refine aN rfl (fun h18 => ?_) (fun h18 => ?_)
   ·refine fL cT 9 rfl (by omega) ?_
    exact kG (x := (1 + sy, a3)) (ad.xz hs h0 (by omega) h3) (aB rfl) ⟨rfl, rfl⟩ (sub (ic .nil) aw)
   ·refine rC cT 5 rfl ?_
    refine oV (fR rfl rfl (by omega) (jH (by omega) (by omega) (by omega))) ?_
    refine cS cT 4 rfl (by omega) ?_
    rcases (Nat.lt_or_ge (8 * B.length) (a3 + (ad.gQ sy))) with hx | hx
    ·refine rC cT 1 rfl ?_
     obtain ⟨hk1, hk2, hk3⟩ := ad.xu (s := sy) (by omega) (by omega)
     have hsh := ad.l9 (x := 2 + sy % 2) (n := ad.gQ sy) (by omega) (by omega) (by omega) rfl
     have hnb := aj.cF B a3 (ad.gQ sy)
     have hnc := aj.qS (show ad.gQ sy ≤ 24 by omega)
     rw [hk1]
     refine wN [pz 0 [] [3], pz 1 [0] [], pz 3 [1] [], pz 0 [] [4], pz 15 [2, 3] [], pz 31 [4] [], pz 0 [] [0], pz 64 [6] [], pz 192 [7] [], pz 448 [8] [], pz 0 [] [4], pz 1984 [9, 10] [], pz 4095 [5, 11] [], pz 8191 [12] []] [⟨fun y => ao b 223 [.pointer (some ⟨bl, 0, none⟩), .int .i64 sz, .int .i64 mo, .slice po no co, .bool s.ended, .int .i64 0, .int .i64 s.kind, .int .i64 (s.left : Int), .bool s.last, li, (.pointer (some ⟨dd, 0, none⟩)), .int .i64 (s.ay : Int), .int .i64 (s.cx : Int)], none, none, [9, 11]⟩, ⟨fun y => HC dd ds, none, none, []⟩, ⟨fun y => LW bl B a3 [] 0, none, none, [11]⟩] F V.mixed ?_
     refine nM ?_
     refine nV (fun y hA L => hG rfl rfl (by omega) (jE (by omega))) ?_
     refine nV (fun y hA L => dj rfl rfl wI) ?_
     refine nM ?_
     refine nV (fun y hA L => fX (r := (2 + sy % 2) * 2 ^ ad.gQ sy) rfl rfl (by omega) hsh.1) ?_
     refine nV (fun y hA L => dj rfl rfl wI) ?_
     refine nM ?_
     refine nN ?_
     refine nG V.eJ ?_
     refine nR (fun y FF hA => ae V.dO rfl an rfl) ?_
     refine nM ?_
     refine bH (undef) _ _ (fun y => rfl) rfl (fun y => rfl) (fun y FF hA => fU (gv bl B a3 [] 0 (ad.gQ sy) hl hB (by omega) (by omega) (by omega)) V.fe rfl (.cons az .nil) (by rintro _ _ ⟨rfl, rfl⟩; exact lf (ad.sL hs (by omega) (by omega) hx) PE.end_ (aX (.cons az .nil) (by exact vW (M := FF) (F := F)) (fun w0 h hh => cR hh)))) ?_
     refine bH (.bool true) _ _ (fun y => rfl) rfl (fun y => rfl) (fun y FF hA => (dJ.fact (hA 11 (by decide)) (q := fun _ => False) rfl).elim) ?_
     refine bH (.bool true) _ _ (fun y => rfl) rfl (fun y => rfl) (fun y FF hA => (dJ.fact (hA 11 (by decide)) (q := fun _ => False) rfl).elim) ?_
     refine aU ?_
     intro y hA
     exact (dJ.fact (hA 11 (by exact Nat.le_of_ble_eq_true rfl)) (q := fun _ => False) rfl).elim
    ·refine rC cT 1 rfl ?_
     obtain ⟨hk1, hk2, hk3⟩ := ad.xu (s := sy) (by omega) (by omega)
     have hsh := ad.l9 (x := 2 + sy % 2) (n := ad.gQ sy) (by omega) (by omega) (by omega) rfl
     have hnb := aj.cF B a3 (ad.gQ sy)
     have hnc := aj.qS (show ad.gQ sy ≤ 24 by omega)
     rw [hk1]
     refine wN [pz 0 [] [3], pz 1 [0] [], pz 3 [1] [], pz 0 [] [4], pz 15 [2, 3] [], pz 31 [4] [], pz 0 [] [0], pz 64 [6] [], pz 192 [7] [], pz 448 [8] [], pz 0 [] [4], pz 1984 [9, 10] [], pz 4095 [5, 11] [], pz 8191 [12] []] [⟨fun y => ao b 223 [.pointer (some ⟨bl, 0, none⟩), .int .i64 sz, .int .i64 mo, .slice po no co, .bool s.ended, .int .i64 0, .int .i64 s.kind, .int .i64 (s.left : Int), .bool s.last, li, (.pointer (some ⟨dd, 0, none⟩)), .int .i64 (s.ay : Int), .int .i64 (s.cx : Int)], none, none, [9]⟩, ⟨fun y => HC dd ds, none, none, []⟩, ⟨fun y => LW bl B a3 [] 0, none, some 11, []⟩, ⟨fun y => LW bl B (a3 + (ad.gQ sy)) [] 0, some 11, none, []⟩] F V.mixed ?_
     refine nM ?_
     refine nV (fun y hA L => hG rfl rfl (by omega) (jE (by omega))) ?_
     refine nV (fun y hA L => dj rfl rfl wI) ?_
     refine nM ?_
     refine nV (fun y hA L => fX (r := (2 + sy % 2) * 2 ^ ad.gQ sy) rfl rfl (by omega) hsh.1) ?_
     refine nV (fun y hA L => dj rfl rfl wI) ?_
     refine nM ?_
     refine nN ?_
     refine nG V.eJ ?_
     refine nR (fun y FF hA => ae V.dO rfl an rfl) ?_
     refine nM ?_
     refine nE (fun y FF hA => bK (Post := [LW bl B (a3 + (ad.gQ sy)) [] 0]) (fK bl B a3 [] 0 (ad.gQ sy) hl hB (by omega) (by omega)) V.fe rfl (ar .nil) (fun v G h => by rcases h with ⟨rfl, rfl⟩; exact ⟨rfl, .refl _⟩)) ?_
     refine nV (fun y hA L => dj rfl rfl wI) ?_
     refine nA ?_
     refine aU ?_
     intro y hA
     clear hA
     refine ba ?_
     refine bZ _ (.cons (d := 2) rfl (.nil _)) ?_
     refine bP (M := ao b 223 [.pointer (some ⟨bl, 0, none⟩), .int .i64 sz, .int .i64 mo, .slice po no co, .bool s.ended, .int .i64 0, .int .i64 s.kind, .int .i64 (s.left : Int), .bool s.last, li, (.pointer (some ⟨dd, 0, none⟩)), .int .i64 (s.ay : Int), .int .i64 (s.cx : Int)] :: HC dd ds :: LW bl B (a3 + (ad.gQ sy)) [] 0 :: F) (fun _ _ h => h) ?_
     refine rC cT 1 rfl ?_
     exact kG (x := (1 + (2 + sy % 2) * 2 ^ ad.gQ sy + aj.aS B a3 (ad.gQ sy), a3 + ad.gQ sy)) (ad.yW hs (by omega) (by omega) hx) (aB rfl) ⟨rfl, rfl⟩ (sub (ic .nil) aw)
  ·refine rC cT 3 rfl ?_
   refine oV (aA (bo rfl rfl) hq) ?_
   refine dD (iN 4) V.iJ rfl .nil ?_
   rintro _ _ ⟨rfl, rfl⟩
   refine (dT ?_)
   exact ev (ad.zn hs (by omega)) (PE.no (by decide)) (aX (ar .nil) hJ (fun w0 h hh => cR hh))
set_option maxHeartbeats 4000000 in
theorem yl (b bl : Nat) (sz mo : Int) (li di : Value) (s : ad.St) (B : List Int) (hl : B.length < 500000000) (hB : aj.av B) (ha : s.at_ ≤ 8 * B.length) : aE Tryz.prog 180 [.pointer (some ⟨b, 0, none⟩)] [MS b bl sz mo li di s, LW bl B s.at_ [] 0] (iE (ad.dM B s) (fun s2 v G => v = .tuple #[] ∧ G = [MM b bl sz mo B s2]) [MX b bl sz mo]) := by
 refine au [(0, _)] Tryz.func180 rfl Tryz.ntmps180 rfl rfl ?_
 intro w0 F
 refine gC (fun h hh => hh) ?_
 rintro ⟨po, co⟩ _
 dsimp only
 have hn1 := aj.cF B (ad.dG (s.at_ + 3)) 16
 have hn2 := aj.cF B ((ad.dG (s.at_ + 3)) + 16) 16
 have hal : ad.dG (s.at_ + 3) = (s.at_ + 3 + 7) / 8 * 8 := ad.vJ _
 rcases (Nat.lt_or_ge (8 * B.length) (s.at_ + 1)) with hx0 | hx0
 ·refine rT cT 6 rfl ?_
  refine oV (ae V.dO rfl an rfl) ?_
  refine dD (gv bl B s.at_ [] 0 1 hl hB (by omega) (by omega) (by omega)) V.fe rfl (.cons bX .nil) ?_
  rintro _ _ ⟨rfl, rfl⟩
  refine (dT ?_)
  exact ev (ad.zo (by omega)) PE.end_ (aX (.cons az .nil) hJ (fun w0 h hh => cR hh))
 ·refine rT cT 6 rfl ?_
  refine oV (ae V.dO rfl an rfl) ?_
  refine ai (fK bl B s.at_ [] 0 1 hl hB (by omega) (by omega)) V.fe  rfl (.cons bX .nil) rfl ?_
  rintro _ _ ⟨rfl, rfl⟩
  refine rO cT 3 rfl ?_
  refine aT (bT V.s4 rfl rfl rfl (by exact mi) (by exact Nat.le_of_ble_eq_true rfl) rfl) ?_
  refine rO cT 2 rfl ?_
  rcases (Nat.lt_or_ge (8 * B.length) (s.at_ + 3)) with hx1 | hx1
  ·refine rC cT 6 rfl ?_
   refine oV (ae V.dO rfl bW rfl) ?_
   refine dD (gv bl B (s.at_ + 1) [] 0 2 hl hB (by omega) (by omega) (by omega)) V.fe rfl (ar .nil) ?_
   rintro _ _ ⟨rfl, rfl⟩
   refine (dT ?_)
   exact ev (ad.zo (by omega)) PE.end_ (aX (.cons az .nil) hJ (fun w0 h hh => cR hh))
  ·refine rC cT 6 rfl ?_
   refine oV (ae V.dO rfl bW rfl) ?_
   refine ai (fK bl B (s.at_ + 1) [] 0 2 hl hB (by omega) (by omega)) V.fe  rfl (ar .nil) rfl ?_
   rintro _ _ ⟨rfl, rfl⟩
   refine rO cT 2 rfl ?_
   refine aT (bT V.s3 rfl rfl rfl (by exact mi) (by exact Nat.le_of_ble_eq_true rfl) rfl) ?_
   refine rO cT 7 rfl ?_
   refine oV (ae V.s3 rfl bW rfl) ?_
   refine rO cT 9 rfl ?_
   refine aN rfl (fun h26 => ?_) (fun h26 => ?_)
   ·refine rC cT 5 rfl ?_
    refine oV (ae V.dO rfl bW rfl) ?_
    refine ai (He bl B (s.at_ + 3) [] 0 hl (by omega)) V.Pl  rfl (ar .nil) rfl ?_
    rintro _ _ ⟨rfl, rfl⟩
    refine rO cT 2 rfl ?_
    rcases (ad.Nq B.length (ad.dG (s.at_ + 3))) with hx | ⟨hx2, hx⟩ | hx
    ·refine rC cT 1 rfl ?_
     have hk0 : (aj.aS B (s.at_ + 1) 2) = 0 := by omega
     refine wN [pz 0 [] [0], pz 1 [0] [], pz 3 [1] [], pz 7 [2] [], pz 15 [3] [], pz 0 [] [0], pz 32 [5] [], pz 96 [6] [], pz 224 [7] [], pz 511 [8] [], pz 1023 [4] [], pz 2047 [9] []] [⟨fun y => LW bl B (ad.dG (s.at_ + 3)) [] 0, none, none, [4]⟩, ⟨fun y => ao b 223 [.pointer (some ⟨bl, 0, none⟩), .int .i64 sz, .int .i64 mo, .slice po s.out.length co, .bool s.ended, .int .i64 0, .int .i64 (aj.aS B (s.at_ + 1) 2), .int .i64 (s.left : Int), .bool (decide (aj.aS B s.at_ 1 = 1)), li, di, .int .i64 (s.ay : Int), .int .i64 (s.cx : Int)], none, none, [3, 4, 8]⟩, ⟨fun y => Row U5 po s.out.length co s.out, none, none, []⟩] F V.mixed ?_
     refine nM ?_
     refine nN ?_
     refine nG V.eJ ?_
     refine nR (fun y FF hA => ae V.dO rfl an rfl) ?_
     refine bH (undef) _ _ (fun y => rfl) rfl (fun y => rfl) (fun y FF hA => fU (gv bl B (ad.dG (s.at_ + 3)) [] 0 16 hl hB (by omega) (by omega) (by omega)) V.fe rfl (ar .nil) (by rintro _ _ ⟨rfl, rfl⟩; exact lf (ad.wM hx1 hk0 (by omega)) PE.end_ (aX (.cons az .nil) (by exact vW (M := FF) (F := F)) (fun w0 h hh => cR hh)))) ?_
     refine nM ?_
     refine nN ?_
     refine nG V.eJ ?_
     refine nR (fun y FF hA => ae V.dO rfl an rfl) ?_
     refine bH (.bool true) _ _ (fun y => rfl) rfl (fun y => rfl) (fun y FF hA => (dJ.fact (hA 4 (by decide)) (q := fun _ => False) rfl).elim) ?_
     refine bH (.bool true) _ _ (fun y => rfl) rfl (fun y => rfl) (fun y FF hA => (dJ.fact (hA 4 (by decide)) (q := fun _ => False) rfl).elim) ?_
     refine bH (.bool true) _ _ (fun y => rfl) rfl (fun y => rfl) (fun y FF hA => (dJ.fact (hA 4 (by decide)) (q := fun _ => False) rfl).elim) ?_
     refine aU ?_
     intro y hA
     exact (dJ.fact (hA 4 (by exact Nat.le_of_ble_eq_true rfl)) (q := fun _ => False) rfl).elim
    ·refine rC cT 1 rfl ?_
     have hk0 : (aj.aS B (s.at_ + 1) 2) = 0 := by omega
     refine wN [pz 0 [] [0], pz 1 [0] [], pz 3 [1] [], pz 7 [2] [], pz 15 [3] [], pz 0 [] [0], pz 32 [5] [], pz 96 [6] [], pz 224 [7] [], pz 511 [8] [], pz 1023 [4] [], pz 2047 [9] []] [⟨fun y => LW bl B (ad.dG (s.at_ + 3)) [] 0, none, some 4, []⟩, ⟨fun y => ao b 223 [.pointer (some ⟨bl, 0, none⟩), .int .i64 sz, .int .i64 mo, .slice po s.out.length co, .bool s.ended, .int .i64 0, .int .i64 (aj.aS B (s.at_ + 1) 2), .int .i64 (s.left : Int), .bool (decide (aj.aS B s.at_ 1 = 1)), li, di, .int .i64 (s.ay : Int), .int .i64 (s.cx : Int)], none, none, [3, 8, 9]⟩, ⟨fun y => Row U5 po s.out.length co s.out, none, none, []⟩, ⟨fun y => LW bl B ((ad.dG (s.at_ + 3)) + 16) [] 0, some 4, none, [9]⟩] F V.mixed ?_
     refine nM ?_
     refine nN ?_
     refine nG V.eJ ?_
     refine nR (fun y FF hA => ae V.dO rfl an rfl) ?_
     refine nE (fun y FF hA => bK (Post := [LW bl B ((ad.dG (s.at_ + 3)) + 16) [] 0]) (fK bl B (ad.dG (s.at_ + 3)) [] 0 16 hl hB (by omega) (by omega)) V.fe rfl (ar .nil) (fun v G h => by rcases h with ⟨rfl, rfl⟩; exact ⟨rfl, .refl _⟩)) ?_
     refine nM ?_
     refine nN ?_
     refine nG V.eJ ?_
     refine nR (fun y FF hA => ae V.dO rfl an rfl) ?_
     refine bH (undef) _ _ (fun y => rfl) rfl (fun y => rfl) (fun y FF hA => fU (gv bl B ((ad.dG (s.at_ + 3)) + 16) [] 0 16 hl hB (by omega) (by omega) (by omega)) V.fe rfl (.cons az .nil) (by rintro _ _ ⟨rfl, rfl⟩; exact lf (ad.wM hx1 hk0 (by omega)) PE.end_ (aX (.cons az .nil) (by exact vW (M := FF) (F := F)) (fun w0 h hh => cR hh)))) ?_
     refine bH (.bool true) _ _ (fun y => rfl) rfl (fun y => rfl) (fun y FF hA => (dJ.fact (hA 9 (by decide)) (q := fun _ => False) rfl).elim) ?_
     refine bH (.bool true) _ _ (fun y => rfl) rfl (fun y => rfl) (fun y FF hA => (dJ.fact (hA 9 (by decide)) (q := fun _ => False) rfl).elim) ?_
     refine aU ?_
     intro y hA
     exact (dJ.fact (hA 9 (by exact Nat.le_of_ble_eq_true rfl)) (q := fun _ => False) rfl).elim
    ·refine rC cT 1 rfl ?_
     have hk0 : (aj.aS B (s.at_ + 1) 2) = 0 := by omega
     refine wN [pz 0 [] [0], pz 1 [0] [], pz 3 [1] [], pz 7 [2] [], pz 15 [3] [], pz 0 [] [0], pz 32 [5] [], pz 96 [6] [], pz 224 [7] [], pz 511 [8] [], pz 1023 [4] [], pz 2047 [9] []] [⟨fun y => LW bl B (ad.dG (s.at_ + 3)) [] 0, none, some 4, []⟩, ⟨fun y => ao b 223 [.pointer (some ⟨bl, 0, none⟩), .int .i64 sz, .int .i64 mo, .slice po s.out.length co, .bool s.ended, .int .i64 0, .int .i64 (aj.aS B (s.at_ + 1) 2), .int .i64 (s.left : Int), .bool (decide (aj.aS B s.at_ 1 = 1)), li, di, .int .i64 (s.ay : Int), .int .i64 (s.cx : Int)], none, none, [3, 8]⟩, ⟨fun y => Row U5 po s.out.length co s.out, none, none, []⟩, ⟨fun y => LW bl B ((ad.dG (s.at_ + 3)) + 16) [] 0, some 4, some 9, []⟩, ⟨fun y => LW bl B ((ad.dG (s.at_ + 3)) + 32) [] 0, some 9, none, []⟩] F V.mixed ?_
     refine nM ?_
     refine nN ?_
     refine nG V.eJ ?_
     refine nR (fun y FF hA => ae V.dO rfl an rfl) ?_
     refine nE (fun y FF hA => bK (Post := [LW bl B ((ad.dG (s.at_ + 3)) + 16) [] 0]) (fK bl B (ad.dG (s.at_ + 3)) [] 0 16 hl hB (by omega) (by omega)) V.fe rfl (ar .nil) (fun v G h => by rcases h with ⟨rfl, rfl⟩; exact ⟨rfl, .refl _⟩)) ?_
     refine nM ?_
     refine nN ?_
     refine nG V.eJ ?_
     refine nR (fun y FF hA => ae V.dO rfl an rfl) ?_
     refine nE (fun y FF hA => bK (Post := [LW bl B ((ad.dG (s.at_ + 3)) + 32) [] 0]) (fK bl B ((ad.dG (s.at_ + 3)) + 16) [] 0 16 hl hB (by omega) (by omega)) V.fe rfl (ar .nil) (fun v G h => by rcases h with ⟨rfl, rfl⟩; exact ⟨rfl, .refl _⟩)) ?_
     iterate 2 refine nA ?_
     refine aU ?_
     intro y hA
     clear hA
     refine ba ?_
     refine bZ _ (.cons (d := 0) rfl (.cons (d := 2) rfl (.cons (d := 3) rfl (.nil _)))) ?_
     refine bP (M := ao b 223 [.pointer (some ⟨bl, 0, none⟩), .int .i64 sz, .int .i64 mo, .slice po s.out.length co, .bool s.ended, .int .i64 0, .int .i64 (aj.aS B (s.at_ + 1) 2), .int .i64 (s.left : Int), .bool (decide (aj.aS B s.at_ 1 = 1)), li, di, .int .i64 (s.ay : Int), .int .i64 (s.cx : Int)] :: Row U5 po s.out.length co s.out :: LW bl B ((ad.dG (s.at_ + 3)) + 32) [] 0 :: F) (fun _ _ h => h) ?_
     rcases (Classical.em ((aj.aS B (ad.dG (s.at_ + 3)) 16) = 65535 - (aj.aS B ((ad.dG (s.at_ + 3)) + 16) 16))) with hm | hm
     ·refine rC cT 4 rfl ?_
      refine oV (oQ (r := (IntKind.i64.wrap ((BitVec.ofInt IntKind.i64.bits (aj.aS B (ad.dG (s.at_ + 3)) 16) ^^^ BitVec.ofInt IntKind.i64.bits (aj.aS B ((ad.dG (s.at_ + 3)) + 16) 16)).toNat : Int))) rfl rfl rfl) ?_
      refine oV (aY (aD rfl rfl) ((ad.F1 hn1 hn2).2 hm)) ?_
      refine ai (kL 4) V.iJ  rfl .nil rfl ?_
      rintro _ _ ⟨rfl, rfl⟩
      refine rO cT 7 rfl ?_
      refine aT (bT V.s3 rfl rfl rfl (by exact cZ) (by exact Nat.le_of_ble_eq_true rfl) rfl) ?_
      refine rO cT 2 rfl ?_
      rw [hk0, show (aj.aS B (ad.dG (s.at_ + 3)) 16) = ((((aj.aS B (ad.dG (s.at_ + 3)) 16)).toNat : Nat) : Int) from (Int.toNat_of_nonneg hn1.1).symm]
      exact iu (x := { s with at_ := ad.dG (s.at_ + 3) + 32, kind := 0, left := (aj.aS B (ad.dG (s.at_ + 3)) 16).toNat, last := (decide (aj.aS B s.at_ 1 = 1)) }) (ad.xh hx1 hk0 (by omega) hm) fH ⟨rfl, rfl⟩ ((aX (bD .nil) .refl (fun w0 h hh => dr (s := { s with at_ := ad.dG (s.at_ + 3) + 32, kind := 0, left := (aj.aS B (ad.dG (s.at_ + 3)) 16).toNat, last := (decide (aj.aS B s.at_ 1 = 1)) }) rfl hh)).trans (aX (bD .nil) aw (fun w0 h hh => nw (s := { s with at_ := ad.dG (s.at_ + 3) + 32, kind := 0, left := (aj.aS B (ad.dG (s.at_ + 3)) 16).toNat, last := (decide (aj.aS B s.at_ 1 = 1)) }) (Int.le_refl _) hh)))
     ·refine rC cT 4 rfl ?_
      refine oV (oQ (r := (IntKind.i64.wrap ((BitVec.ofInt IntKind.i64.bits (aj.aS B (ad.dG (s.at_ + 3)) 16) ^^^ BitVec.ofInt IntKind.i64.bits (aj.aS B ((ad.dG (s.at_ + 3)) + 16) 16)).toNat : Int))) rfl rfl rfl) ?_
      refine oV (aA (aD rfl rfl) (fun h => hm ((ad.F1 hn1 hn2).1 h))) ?_
      refine dD (iN 4) V.iJ rfl .nil ?_
      rintro _ _ ⟨rfl, rfl⟩
      refine (dT (fu ?_))
      exact ev (ad.Ay hx1 hk0 (by omega) hm) (PE.no (by decide)) (aX (ar .nil) hJ (fun w0 h hh => cR hh))
   ·refine rC cT 6 rfl ?_
    refine aN rfl (fun h52 => ?_) (fun h52 => ?_)
    ·refine rC cT 2 rfl ?_
     refine ai (GB b bl sz mo po s.out.length co li di { s with kind := (aj.aS B (s.at_ + 1) 2), last := (decide (aj.aS B s.at_ 1 = 1)) }) V.PM  rfl (.cons az .nil) rfl ?_
     rintro _ _ ⟨lb, db, rfl, rfl⟩
     refine rO cT 2 rfl ?_
     have hk1 : (aj.aS B (s.at_ + 1) 2) = 1 := by omega
     rw [hk1]
     exact iu (x := { s with at_ := s.at_ + 3, kind := 1, last := (decide (aj.aS B s.at_ 1 = 1)), lits := ad.fT, eM := ad.lh }) (ad.FW hx1 hk1) fH ⟨rfl, rfl⟩ ((aX (ar (.cons ed .nil)) .refl (fun w0 h hh => dr (s := { s with at_ := s.at_ + 3, kind := 1, last := (decide (aj.aS B s.at_ 1 = 1)), lits := ad.fT, eM := ad.lh }) rfl hh)).trans (aX (ar (.cons bX (.cons dS (.cons dS .nil)))) aw (fun w0 h hh => l7 (s := { s with at_ := s.at_ + 3, kind := 1, last := (decide (aj.aS B s.at_ 1 = 1)), lits := ad.fT, eM := ad.lh }) hh)))
    ·refine rC cT 6 rfl ?_
     refine aN rfl (fun h56 => ?_) (fun h56 => ?_)
     ·rcases (ad.gy (ad.told B (s.at_ + 3))) with ⟨e, ht⟩ | ⟨⟨x3, ll, dl⟩, ht⟩
      ·refine rC cT 2 rfl ?_
       refine dD ((BS b bl sz mo po s.out.length co li di { s with kind := (aj.aS B (s.at_ + 1) 2), last := (decide (aj.aS B s.at_ 1 = 1)) } B (s.at_ + 3) hl hB (by omega)).err ht) V.Ip rfl (.cons az (ar .nil)) ?_
       rintro _ _ ⟨hp, rfl⟩
       refine (fu ?_)
       exact ev (ad.Cc hx1 (by omega) ht) hp (sub (ar .nil) cC)
      ·refine rC cT 2 rfl ?_
       refine ai ((BS b bl sz mo po s.out.length co li di { s with kind := (aj.aS B (s.at_ + 1) 2), last := (decide (aj.aS B s.at_ 1 = 1)) } B (s.at_ + 3) hl hB (by omega)).ok ht) V.Ip  rfl (.cons az (ar .nil)) rfl ?_
       rintro _ _ ⟨lb, db, rfl, rfl⟩
       refine rO cT 2 rfl ?_
       have hk2 : (aj.aS B (s.at_ + 1) 2) = 2 := by omega
       rw [hk2]
       exact iu (x := { s with at_ := x3, kind := 2, last := (decide (aj.aS B s.at_ 1 = 1)), lits := ll, eM := dl }) (ad.Ba hx1 hk2 ht) fH ⟨rfl, rfl⟩ ((aX (ar (.cons ed .nil)) .refl (fun w0 h hh => dr (s := { s with at_ := x3, kind := 2, last := (decide (aj.aS B s.at_ 1 = 1)), lits := ll, eM := dl }) rfl hh)).trans (aX (ny .nil) aw (fun w0 h hh => l7 (s := { s with at_ := x3, kind := 2, last := (decide (aj.aS B s.at_ 1 = 1)), lits := ll, eM := dl }) hh)))
     ·refine a7 ?_
      refine dD (iN 4) V.iJ rfl .nil ?_
      rintro _ _ ⟨rfl, rfl⟩
      refine (fu ?_)
      exact ev (ad.BH hx1 (by omega) (by omega) (by omega)) (PE.no (by decide)) (aX (.cons az .nil) hJ (fun w0 h hh => cR hh))
end Go.Proofs.YtmaiakpjgomnpaaGreat
namespace Go.Proofs.YtmaiakpjgomnpaaGreat
open Go.Sl 
theorem cX : dR Tryz.prog ⟨[], [(223, 0, 0), (223, 6, 6), (223, 7, 7), (223, 11, 11), (223, 12, 12)]⟩ = true := by kernel_rfl
attribute [local irreducible] af.bU af.tk af.ord af.cK af.words af.c9 ad.iG ad.de ad.dz ad.eo ad.hL ad.hD ad.hC ad.fz ad.told ad.fT ad.jo ad.rep ad.fo ad.eG ad.sym ad.dG aj.aS ad.eY ad.dM ad.eX
theorem oe (b bl : Nat) (sz mo : Int) (po : Option Addr) (co : Nat) (li di : Value) (s : ad.St) (yb : Int) (hy : 0 ≤ yb ∧ yb < 256) (hm : mo < 1000000000) : aE Tryz.prog 179 [.pointer (some ⟨b, 0, none⟩), .int .u8 yb] [ao b 223 [.pointer (some ⟨bl, 0, none⟩), .int .i64 sz, .int .i64 mo, .slice po s.out.length co, .bool s.ended, .int .i64 0, .int .i64 s.kind, .int .i64 (s.left : Int), .bool s.last, li, di, .int .i64 (s.ay : Int), .int .i64 (s.cx : Int)], Row U5 po s.out.length co s.out] (iE (ad.eX mo s yb) (fun s2 v G => v = .tuple #[] ∧ G = [MS b bl sz mo li di s2]) [MX b bl sz mo]) :=
 aE.fold (Ii b bl sz mo li di s yb hy hm) (fun w0 h hh => dr rfl hh)
set_option maxHeartbeats 4000000 in
theorem yE (b bl : Nat) (sz mo : Int) (l d : Nat) (s : ad.St) (B : List Int) (hl : B.length < 500000000) (hB : aj.av B) (hm : mo < 1000000000) (hok : ad.Ok B mo s) (hk : 0 < s.kind) : aE Tryz.prog 181 [.pointer (some ⟨b, 0, none⟩)] [MS b bl sz mo (.pointer (some ⟨l, 0, none⟩)) (.pointer (some ⟨d, 0, none⟩)) s, LW bl B s.at_ [] 0, HC l s.lits, HC d s.eM] (iE (ad.eY B mo s) (fun s2 v G => v = .tuple #[] ∧ G = [MM b bl sz mo B s2]) [MX b bl sz mo]) := by
 refine au [(0, _)] Tryz.func181 rfl Tryz.ntmps181 rfl rfl ?_
 intro w0 F
 refine gC (fun h hh => hh) ?_
 rintro ⟨po, co⟩ _
 dsimp only
 obtain ⟨hE1, hE2, hz1, hz2⟩ := hok.Ff hk
 have ha := hok.at_
 have hll := ad.vR hE1
 have hro := hok.room
 rcases (ad.vQ (B := B) (ls := s.lits) (a := s.at_) hE1 hz1) with ⟨e, hs⟩ | ⟨sy, a1, hs, hy0, hy1, ha0, ha1⟩
 ·refine rT cX 1 rfl ?_
  refine wN [pz 0 [] [0], pz 1 [0] [], pz 3 [1] [], pz 7 [2] [], pz 0 [] [0], pz 16 [4] [], pz 48 [5] [], pz 112 [6] [], pz 255 [3, 7] [], pz 511 [8] []] [⟨fun y => ao b 223 [.pointer (some ⟨bl, 0, none⟩), .int .i64 sz, .int .i64 mo, .slice po s.out.length co, .bool s.ended, .int .i64 0, .int .i64 s.kind, .int .i64 (s.left : Int), .bool s.last, (.pointer (some ⟨l, 0, none⟩)), (.pointer (some ⟨d, 0, none⟩)), .int .i64 (s.ay : Int), .int .i64 (s.cx : Int)], none, none, [3, 7, 8]⟩, ⟨fun y => Row U5 po s.out.length co s.out, none, none, []⟩, ⟨fun y => LW bl B s.at_ [] 0, none, none, [8]⟩, ⟨fun y => HC l s.lits, none, none, [8]⟩, ⟨fun y => HC d s.eM, none, none, []⟩] F V.mixed ?_
  refine nM ?_
  refine nN ?_
  refine nG V.xq ?_
  refine nR (fun y FF hA => ae V.qy rfl an rfl) ?_
  refine nM ?_
  refine nN ?_
  refine nG V.eJ ?_
  refine nR (fun y FF hA => ae V.dO rfl an rfl) ?_
  refine bH (undef) _ _ (fun y => rfl) rfl (fun y => rfl) (fun y FF hA => fU ((oG l s.lits bl B s.at_ [] 0 hE1 hl hB ha).err hs) V.rH rfl (.cons bX (.cons az .nil)) (by rintro _ _ ⟨hp, rfl⟩; exact lf (ad.vg hs) hp (aX (ar .nil) (by exact uH (M := FF) (F := F)) (fun w0 h hh => cR hh)))) ?_
  refine bH (.bool true) _ _ (fun y => rfl) rfl (fun y => rfl) (fun y FF hA => (dJ.fact (hA 8 (by decide)) (q := fun _ => False) rfl).elim) ?_
  refine aU ?_
  intro y hA
  exact (dJ.fact (hA 8 (by exact Nat.le_of_ble_eq_true rfl)) (q := fun _ => False) rfl).elim
 ·refine rT cX 1 rfl ?_
  refine wN [pz 0 [] [0], pz 1 [0] [], pz 3 [1] [], pz 7 [2] [], pz 0 [] [0], pz 16 [4] [], pz 48 [5] [], pz 112 [6] [], pz 255 [3, 7] [], pz 511 [8] []] [⟨fun y => ao b 223 [.pointer (some ⟨bl, 0, none⟩), .int .i64 sz, .int .i64 mo, .slice po s.out.length co, .bool s.ended, .int .i64 0, .int .i64 s.kind, .int .i64 (s.left : Int), .bool s.last, (.pointer (some ⟨l, 0, none⟩)), (.pointer (some ⟨d, 0, none⟩)), .int .i64 (s.ay : Int), .int .i64 (s.cx : Int)], none, none, [3, 7]⟩, ⟨fun y => Row U5 po s.out.length co s.out, none, none, []⟩, ⟨fun y => LW bl B s.at_ [] 0, none, some 8, []⟩, ⟨fun y => HC l s.lits, none, some 8, []⟩, ⟨fun y => HC d s.eM, none, none, []⟩, ⟨fun y => HC l s.lits, some 8, none, []⟩, ⟨fun y => LW bl B a1 [] 0, some 8, none, []⟩] F V.mixed ?_
  refine nM ?_
  refine nN ?_
  refine nG V.xq ?_
  refine nR (fun y FF hA => ae V.qy rfl an rfl) ?_
  refine nM ?_
  refine nN ?_
  refine nG V.eJ ?_
  refine nR (fun y FF hA => ae V.dO rfl an rfl) ?_
  refine nE (fun y FF hA => bK (Post := [HC l s.lits, LW bl B a1 [] 0]) ((oG l s.lits bl B s.at_ [] 0 hE1 hl hB ha).ok hs) V.rH rfl (.cons az (ar .nil)) (fun v G h => by rcases h with ⟨rfl, rfl⟩; exact ⟨rfl, .refl _⟩)) ?_
  refine nA ?_
  refine aU ?_
  intro y hA
  clear hA
  refine ba ?_
  refine bZ _ (.cons (d := 0) rfl (.cons (d := 2) rfl (.nil _))) ?_
  refine bP (M := ao b 223 [.pointer (some ⟨bl, 0, none⟩), .int .i64 sz, .int .i64 mo, .slice po s.out.length co, .bool s.ended, .int .i64 0, .int .i64 s.kind, .int .i64 (s.left : Int), .bool s.last, (.pointer (some ⟨l, 0, none⟩)), (.pointer (some ⟨d, 0, none⟩)), .int .i64 (s.ay : Int), .int .i64 (s.cx : Int)] :: Row U5 po s.out.length co s.out :: HC d s.eM :: HC l s.lits :: LW bl B a1 [] 0 :: F) (fun _ _ h => h) ?_
  refine rC cX 8 rfl ?_
  refine aN rfl (fun h36 => ?_) (fun h36 => ?_)
  ·rcases (ad.gy (ad.eX mo { s with at_ := a1 } sy)) with ⟨e, hp⟩ | ⟨s2, hp⟩
   ·refine rC cX 3 rfl ?_
    refine oV (bC V.u3 Tryz.underlying5 rfl (lj (by omega) (by omega))) ?_
    refine dD ((oe b bl sz mo po co (.pointer (some ⟨l, 0, none⟩)) (.pointer (some ⟨d, 0, none⟩)) { s with at_ := a1 } sy (by omega) hm).err hp) V.tK rfl (bD .nil) ?_
    rintro _ _ ⟨hpe, rfl⟩
    refine (fu ?_)
    exact ev ((ad.nP hs (by omega)).trans hp) hpe (sub (ar .nil) oc)
   ·refine rC cX 3 rfl ?_
    refine oV (bC V.u3 Tryz.underlying5 rfl (lj (by omega) (by omega))) ?_
    refine ai ((oe b bl sz mo po co (.pointer (some ⟨l, 0, none⟩)) (.pointer (some ⟨d, 0, none⟩)) { s with at_ := a1 } sy (by omega) hm).ok hp) V.tK  rfl (bD .nil) rfl ?_
    rintro _ _ ⟨rfl, rfl⟩
    refine rO cX 2 rfl ?_
    obtain ⟨_, rfl⟩ := ad.qk hp
    exact iu ((ad.nP hs (by omega)).trans hp) fH ⟨rfl, rfl⟩ (aX (ar (.cons bX (.cons az (.cons dS .nil)))) aw (fun w0 h hh => l7 (s := { s with at_ := a1, out := s.out ++ [sy] }) hh))
  ·refine rC cX 7 rfl ?_
   refine aN rfl (fun h43 => ?_) (fun h43 => ?_)
   ·refine rC cX 2 rfl ?_
    refine ai (zc b bl sz mo po s.out.length co (.pointer (some ⟨l, 0, none⟩)) (.pointer (some ⟨d, 0, none⟩)) s) V.Jy  rfl (ar .nil) rfl ?_
    rintro _ _ ⟨rfl, rfl⟩
    refine rO cX 2 rfl ?_
    exact iu (x := { s with at_ := a1, kind := -1, ended := s.last }) (ad.qP hs (by omega)) fH ⟨rfl, rfl⟩ ((aX (bD .nil) .refl (fun w0 h hh => dr (s := { s with at_ := a1, kind := -1, ended := s.last }) rfl hh)).trans (aX (ar (.cons bX (.cons az (.cons dS .nil)))) aw (fun w0 h hh => l7 (s := { s with at_ := a1, kind := -1, ended := s.last }) hh)))
   ·rcases (ad.BL (B := B) (s := sy - 257) (a := a1) (by omega) ha1) with ⟨e, hn⟩ | ⟨n, a2, hn, hn0, hn1, hn2, hn3⟩
    ·refine fL cX 6 rfl (by omega) ?_
     refine oV (gh (r := sy - 257) rfl rfl (by rw [show sy - 256 - 1 = sy - 257 from by omega]; exact gR (by omega) (by omega))) ?_
     refine dD ((wc b bl sz mo po s.out.length co (.pointer (some ⟨l, 0, none⟩)) (.pointer (some ⟨d, 0, none⟩)) s B a1 (sy - 257) (by omega) hl hB ha1).err hn) V.Lx rfl (ar (.cons ed .nil)) ?_
     rintro _ _ ⟨hpe, rfl⟩
     refine (dT (fu ?_))
     exact ev (ad.vn hs (by omega) hn) hpe (sub (ar .nil) oc)
    ·refine fL cX 6 rfl (by omega) ?_
     refine oV (gh (r := sy - 257) rfl rfl (by rw [show sy - 256 - 1 = sy - 257 from by omega]; exact gR (by omega) (by omega))) ?_
     refine ai ((wc b bl sz mo po s.out.length co (.pointer (some ⟨l, 0, none⟩)) (.pointer (some ⟨d, 0, none⟩)) s B a1 (sy - 257) (by omega) hl hB ha1).ok hn) V.Lx  rfl (ar (.cons ed .nil)) rfl ?_
     rintro _ _ ⟨rfl, rfl⟩
     refine rO cX 2 rfl ?_
     refine aT (bT V.s3 rfl rfl rfl (by exact cZ) (by exact Nat.le_of_ble_eq_true rfl) rfl) ?_
     refine rO cX 2 rfl ?_
     rcases (ad.zm (B := B) (ds := s.eM) (a := a2) hE2 hz2) with ⟨e, hf⟩ | ⟨f, a3, hf, hf0, hf1, hf2, hf3⟩
     ·refine rC cX 4 rfl ?_
      refine dD ((CH b bl sz mo po s.out.length co (.pointer (some ⟨l, 0, none⟩)) d { s with ay := n } B s.eM a2 hE2 hz2 hl hB hn3).err hf) V.J9 rfl (ar (.cons bX (.cons dS .nil))) ?_
      rintro _ _ ⟨hpe, rfl⟩
      refine (dT (fu ?_))
      exact ev (ad.va hs (by omega) hn hf) hpe (sub (ar .nil) hJ)
     ·refine rC cX 4 rfl ?_
      refine ai ((CH b bl sz mo po s.out.length co (.pointer (some ⟨l, 0, none⟩)) d { s with ay := n } B s.eM a2 hE2 hz2 hl hB hn3).ok hf) V.J9  rfl (ar (.cons bX (.cons dS .nil))) rfl ?_
      rintro _ _ ⟨rfl, rfl⟩
      refine rO cX 2 rfl ?_
      refine aT (bT V.s3 rfl rfl rfl (by exact cZ) (by exact Nat.le_of_ble_eq_true rfl) rfl) ?_
      refine rO cX 2 rfl ?_
      rcases (Classical.em (f ≤ s.out.length)) with hfo | hfo
      ·refine wN [pz 0 [] [0], pz 1 [0] [], pz 3 [1] [], pz 7 [2] [], pz 0 [] [0], pz 16 [4] [], pz 48 [5] [], pz 112 [6] [], pz 240 [7] [], pz 511 [3, 8] [], pz 1023 [9] []] [⟨fun y => ao b 223 [.pointer (some ⟨bl, 0, none⟩), .int .i64 sz, .int .i64 mo, .slice po s.out.length co, .bool s.ended, .int .i64 0, .int .i64 s.kind, .int .i64 (s.left : Int), .bool s.last, (.pointer (some ⟨l, 0, none⟩)), (.pointer (some ⟨d, 0, none⟩)), .int .i64 (n : Int), .int .i64 (f : Int)], none, none, [3, 7]⟩, ⟨fun y => HC d s.eM, none, none, []⟩, ⟨fun y => LW bl B a3 [] 0, none, none, []⟩, ⟨fun y => Row U5 po s.out.length co s.out, none, none, []⟩, ⟨fun y => HC l s.lits, none, none, []⟩] F V.mixed ?_
       refine nM ?_
       refine nN ?_
       refine nG V.qO ?_
       refine nR (fun y FF hA => ae V.s3 rfl an rfl) ?_
       refine nM ?_
       refine nN ?_
       refine nG V.kK ?_
       refine nR (fun y FF hA => ae V.ez rfl an rfl) ?_
       refine nV (fun y hA L => eu (ty' := 0) Tryz.underlying22 rfl) ?_
       refine nV (fun y hA L => aY (eH rfl rfl) (by omega)) ?_
       refine nE (fun y FF hA => bK (Post := []) (kL 4) V.iJ rfl .nil (fun v G h => by rcases h with ⟨rfl, rfl⟩; exact ⟨rfl, .refl _⟩)) ?_
       refine aU ?_
       intro y hA
       clear hA
       show ly _ _ _ _ (ao b 223 [.pointer (some ⟨bl, 0, none⟩), .int .i64 sz, .int .i64 mo, .slice po s.out.length co, .bool s.ended, .int .i64 0, .int .i64 s.kind, .int .i64 (s.left : Int), .bool s.last, (.pointer (some ⟨l, 0, none⟩)), (.pointer (some ⟨d, 0, none⟩)), .int .i64 (n : Int), .int .i64 (f : Int)] :: HC d s.eM :: LW bl B a3 [] 0 :: Row U5 po s.out.length co s.out :: HC l s.lits :: F)
       refine ks ?_
       exact iu (x := { s with at_ := a3, ay := n, cx := f }) (ad.vm hs (by omega) hn hf (by omega)) fH ⟨rfl, rfl⟩ ((aX (ar (.cons bX .nil)) .refl (fun w0 h hh => dr (s := { s with at_ := a3, ay := n, cx := f }) rfl hh)).trans (aX (ar (.cons az (.cons az (.cons dS .nil)))) aw (fun w0 h hh => l7 (s := { s with at_ := a3, ay := n, cx := f }) hh)))
      ·refine wN [pz 0 [] [0], pz 1 [0] [], pz 3 [1] [], pz 7 [2] [], pz 0 [] [0], pz 16 [4] [], pz 48 [5] [], pz 112 [6] [], pz 240 [7] [], pz 511 [3, 8] [], pz 1023 [9] []] [⟨fun y => ao b 223 [.pointer (some ⟨bl, 0, none⟩), .int .i64 sz, .int .i64 mo, .slice po s.out.length co, .bool s.ended, .int .i64 0, .int .i64 s.kind, .int .i64 (s.left : Int), .bool s.last, (.pointer (some ⟨l, 0, none⟩)), (.pointer (some ⟨d, 0, none⟩)), .int .i64 (n : Int), .int .i64 (f : Int)], none, none, [3, 7, 10]⟩, ⟨fun y => HC d s.eM, none, none, []⟩, ⟨fun y => LW bl B a3 [] 0, none, none, []⟩, ⟨fun y => Row U5 po s.out.length co s.out, none, none, []⟩, ⟨fun y => HC l s.lits, none, none, []⟩] F V.mixed ?_
       refine nM ?_
       refine nN ?_
       refine nG V.qO ?_
       refine nR (fun y FF hA => ae V.s3 rfl an rfl) ?_
       refine nM ?_
       refine nN ?_
       refine nG V.kK ?_
       refine nR (fun y FF hA => ae V.ez rfl an rfl) ?_
       refine nV (fun y hA L => eu (ty' := 0) Tryz.underlying22 rfl) ?_
       refine nV (fun y hA L => aA (eH rfl rfl) (by omega)) ?_
       refine bH (undef) _ _ (fun y => rfl) rfl (fun y => rfl) (fun y FF hA => fU (iN 4) V.iJ rfl .nil (by rintro _ _ ⟨rfl, rfl⟩; exact lf (ad.vc hs (by omega) hn hf (by omega)) (PE.no (by decide)) (aX (ar .nil) (by exact uH (M := FF) (F := F)) (fun w0 h hh => cR hh)))) ?_
       refine aU ?_
       intro y hA
       exact (dJ.fact (hA 10 (by exact Nat.le_of_ble_eq_true rfl)) (q := fun _ => False) rfl).elim
set_option maxHeartbeats 4000000 in
theorem Fa (b bl : Nat) (sz mo : Int) (s : ad.St) (B : List Int) (hl : B.length < 500000000) (hB : aj.av B) (hm : mo < 1000000000) (hok : ad.Ok B mo s) : aE Tryz.prog 169 [.pointer (some ⟨b, 0, none⟩)] [MM b bl sz mo B s] (iE (ad.one B mo s) (fun s2 v G => v = .tuple #[] ∧ G = [MM b bl sz mo B s2]) [MX b bl sz mo]) := by
 refine au [(0, _)] Tryz.func169 rfl Tryz.ntmps169 rfl rfl ?_
 intro w0 F
 refine gC (fun h hh => hh) ?_
 rintro ⟨li, di⟩ _
 dsimp only
 refine gC (fun h hh => hh) ?_
 rintro ⟨po, co⟩ _
 dsimp only
 simp only [List.cons_append, List.nil_append]
 have ha := hok.at_
 have hro := hok.room
 have hcp := hok.ay
 have hlf := hok.left
 have hnb := aj.cF B s.at_ 8
 refine rT cX 6 rfl ?_
 refine oV (ae V.s3 rfl an rfl) ?_
 refine rO cX 4 rfl ?_
 refine aN rfl (fun h17 => ?_) (fun h17 => ?_)
 ·rcases (ad.gy (ad.eX mo s (U5.g s.out ((s.out.length : Int) - (s.cx : Int))))) with ⟨e, hp⟩ | ⟨s2, hp⟩
  ·refine rC cX 1 rfl ?_
   have hcs : 0 < s.ay := by omega
   have hfr := hok.cx hcs
   have hge : U5.g s.out ((s.out.length : Int) - (s.cx : Int)) = s.out.getD (s.out.length - s.cx) 0 := gE _ (by omega)
   refine wN [pz 0 [] [0], pz 0 [] [0], pz 2 [1] [], pz 6 [2] [], pz 14 [3] [], pz 0 [] [0], pz 32 [5] [], pz 96 [6] [], pz 224 [7] [], pz 480 [8] [], pz 0 [] [0], pz 1024 [10] [], pz 3072 [11] [], pz 7168 [12] [], pz 16352 [9, 13] [], pz 32766 [4, 14] [], pz 65534 [15] [], pz 131071 [0, 16] []] [⟨fun y => ao b 223 [.pointer (some ⟨bl, 0, none⟩), .int .i64 sz, .int .i64 mo, .slice po s.out.length co, .bool s.ended, .int .i64 0, .int .i64 s.kind, .int .i64 (s.left : Int), .bool s.last, li, di, .int .i64 (s.ay : Int), .int .i64 (s.cx : Int)], none, none, [4, 8, 13, 17]⟩, ⟨fun y => Row U5 po s.out.length co s.out, none, none, [15, 16, 17]⟩, ⟨fun y => LW bl B s.at_ [] 0, none, none, []⟩, ⟨fun y => CD li di s, none, none, []⟩] F V.mixed ?_
   iterate 2 refine nM ?_
   refine nN ?_
   refine nG V.kK ?_
   refine nR (fun y FF hA => ae V.ez rfl an rfl) ?_
   refine nM ?_
   refine nN ?_
   refine nG V.kK ?_
   refine nR (fun y FF hA => ae V.ez rfl an rfl) ?_
   refine nV (fun y hA L => eu (ty' := 0) Tryz.underlying22 rfl) ?_
   refine nM ?_
   refine nN ?_
   refine nG V.qO ?_
   refine nR (fun y FF hA => ae V.s3 rfl an rfl) ?_
   refine nV (fun y hA L => gh rfl rfl wI) ?_
   refine nR (fun y FF hA => xI V.cy (own an)) ?_
   refine nR (fun y FF hA => xL V.s5 (own an)) ?_
   refine bH (undef) _ _ (fun y => rfl) rfl (fun y => rfl) (fun y FF hA => fU ((oe b bl sz mo po co li di s (U5.g s.out ((s.out.length : Int) - (s.cx : Int))) (by rw [hge]; exact hok.sV.get _) hm).err hp) V.tK rfl (bD .nil) (by rintro _ _ ⟨hpe, rfl⟩; exact lf (ad.JD hcs (by rw [← hge]; exact hp)) hpe (sub (ar .nil) (by exact uH (M := FF) (F := F))))) ?_
   refine aU ?_
   intro y hA
   exact (dJ.fact (hA 17 (by exact Nat.le_of_ble_eq_true rfl)) (q := fun _ => False) rfl).elim
  ·refine rC cX 1 rfl ?_
   have hcs : 0 < s.ay := by omega
   have hfr := hok.cx hcs
   have hge : U5.g s.out ((s.out.length : Int) - (s.cx : Int)) = s.out.getD (s.out.length - s.cx) 0 := gE _ (by omega)
   refine wN [pz 0 [] [0], pz 0 [] [0], pz 2 [1] [], pz 6 [2] [], pz 14 [3] [], pz 0 [] [0], pz 32 [5] [], pz 96 [6] [], pz 224 [7] [], pz 480 [8] [], pz 0 [] [0], pz 1024 [10] [], pz 3072 [11] [], pz 7168 [12] [], pz 16352 [9, 13] [], pz 32766 [4, 14] [], pz 65534 [15] [], pz 131071 [0, 16] []] [⟨fun y => ao b 223 [.pointer (some ⟨bl, 0, none⟩), .int .i64 sz, .int .i64 mo, .slice po s.out.length co, .bool s.ended, .int .i64 0, .int .i64 s.kind, .int .i64 (s.left : Int), .bool s.last, li, di, .int .i64 (s.ay : Int), .int .i64 (s.cx : Int)], none, some 17, [4, 8, 13]⟩, ⟨fun y => Row U5 po s.out.length co s.out, none, some 17, [15, 16]⟩, ⟨fun y => LW bl B s.at_ [] 0, none, none, []⟩, ⟨fun y => CD li di s, none, none, []⟩, ⟨fun y => MS b bl sz mo li di s2, some 17, none, []⟩] F V.mixed ?_
   iterate 2 refine nM ?_
   refine nN ?_
   refine nG V.kK ?_
   refine nR (fun y FF hA => ae V.ez rfl an rfl) ?_
   refine nM ?_
   refine nN ?_
   refine nG V.kK ?_
   refine nR (fun y FF hA => ae V.ez rfl an rfl) ?_
   refine nV (fun y hA L => eu (ty' := 0) Tryz.underlying22 rfl) ?_
   refine nM ?_
   refine nN ?_
   refine nG V.qO ?_
   refine nR (fun y FF hA => ae V.s3 rfl an rfl) ?_
   refine nV (fun y hA L => gh rfl rfl wI) ?_
   refine nR (fun y FF hA => xI V.cy (own an)) ?_
   refine nR (fun y FF hA => xL V.s5 (own an)) ?_
   refine nE (fun y FF hA => bK (Post := [MS b bl sz mo li di s2]) ((oe b bl sz mo po co li di s (U5.g s.out ((s.out.length : Int) - (s.cx : Int))) (by rw [hge]; exact hok.sV.get _) hm).ok hp) V.tK rfl (bD .nil) (fun v G h => by rcases h with ⟨rfl, rfl⟩; exact ⟨rfl, .refl _⟩)) ?_
   refine aU ?_
   intro y hA
   clear hA
   refine ba ?_
   refine bZ _ (.cons (d := 0) rfl (.nil _)) ?_
   refine bP (M := LW bl B s.at_ [] 0 :: CD li di s :: MS b bl sz mo li di s2 :: F) (fun _ _ h => h) ?_
   obtain ⟨hroom, rfl⟩ := ad.qk hp
   refine gk bX (fun h hh => iO hh) ?_
   rintro ⟨po2, co2⟩ _
   dsimp only
   simp only [List.cons_append, List.nil_append]
   refine rC cX 4 rfl ?_
   refine oV (ae V.s3 rfl an rfl) ?_
   refine cS cX 3 rfl (by omega) ?_
   refine aT (bT V.s3 rfl rfl rfl (by exact cZ) (by exact Nat.le_of_ble_eq_true rfl) rfl) ?_
   refine rO cX 2 rfl ?_
   rw [show (s.ay : Int) - 1 = ((s.ay - 1 : Nat) : Int) from by omega]
   exact iu (x := { s with ay := s.ay - 1, out := s.out ++ [(U5.g s.out ((s.out.length : Int) - (s.cx : Int)))] }) (by rw [hge]; exact ad.JF hcs hroom) fH ⟨rfl, rfl⟩ ((aX (bD .nil) .refl (fun w0 h hh => dr (s := { s with ay := s.ay - 1, out := s.out ++ [(U5.g s.out ((s.out.length : Int) - (s.cx : Int)))] }) (by simp) hh)).trans (aX (ic .nil) aw (fun w0 h hh => fp (s := { s with ay := s.ay - 1, out := s.out ++ [(U5.g s.out ((s.out.length : Int) - (s.cx : Int)))] }) hh)))
 ·refine rC cX 5 rfl ?_
  refine oV (ae V.s3 rfl an rfl) ?_
  refine rO cX 4 rfl ?_
  refine aN rfl (fun h48 => ?_) (fun h48 => ?_)
  ·rcases (ad.gy (ad.dM B s)) with ⟨e, hp⟩ | ⟨s2, hp⟩
   ·have hcs : ¬ 0 < s.ay := by omega
    have hk1 : s.kind = -1 := by omega
    refine bP (aX (bD .nil) .refl (fun w0 h hh => dr (s := s) rfl hh)) ?_
    refine rC cX 2 rfl ?_
    refine dD ((yl b bl sz mo li di s B hl hB ha).err hp) V.Jx rfl (bD .nil) ?_
    rintro _ _ ⟨hpe, rfl⟩
    refine (fu ?_)
    exact ev ((ad.tC hcs hk1).trans hp) hpe (sub (ar .nil) cC)
   ·have hcs : ¬ 0 < s.ay := by omega
    have hk1 : s.kind = -1 := by omega
    refine bP (aX (bD .nil) .refl (fun w0 h hh => dr (s := s) rfl hh)) ?_
    refine rC cX 2 rfl ?_
    refine ai ((yl b bl sz mo li di s B hl hB ha).ok hp) V.Jx  rfl (bD .nil) rfl ?_
    rintro _ _ ⟨rfl, rfl⟩
    refine rO cX 2 rfl ?_
    exact iu ((ad.tC hcs hk1).trans hp) fH ⟨rfl, rfl⟩ (sub (ar .nil) cC)
  ·refine rC cX 5 rfl ?_
   refine oV (ae V.s3 rfl an rfl) ?_
   refine rO cX 4 rfl ?_
   refine aN rfl (fun h56 => ?_) (fun h56 => ?_)
   ·rcases (ad.gy (ad.eY B mo s)) with ⟨e, hp⟩ | ⟨s2, hp⟩
    ·have hcs : ¬ 0 < s.ay := by omega
     have hk1 : ¬ s.kind = -1 := by omega
     have hk0 : s.kind ≠ 0 := by omega
     have hkp : 0 < s.kind := by have := hok.kind; omega
     refine gk ed (fun h hh => yY hkp hh) ?_
     rintro ⟨l, d⟩ ⟨h1, h2⟩
     dsimp only at h1 h2
     subst h1
     subst h2
     simp only [List.cons_append, List.nil_append]
     refine bP (aX (.cons bX (.cons bX .nil)) .refl (fun w0 h hh => dr (s := s) rfl hh)) ?_
     refine rC cX 2 rfl ?_
     refine dD ((yE b bl sz mo l d s B hl hB hm hok hkp).err hp) V.LC rfl (ar (.cons bX (.cons dS (.cons dS .nil)))) ?_
     rintro _ _ ⟨hpe, rfl⟩
     refine (fu ?_)
     exact ev ((ad.vh hcs hk1 hk0).trans hp) hpe (sub (ar .nil) aw)
    ·have hcs : ¬ 0 < s.ay := by omega
     have hk1 : ¬ s.kind = -1 := by omega
     have hk0 : s.kind ≠ 0 := by omega
     have hkp : 0 < s.kind := by have := hok.kind; omega
     refine gk ed (fun h hh => yY hkp hh) ?_
     rintro ⟨l, d⟩ ⟨h1, h2⟩
     dsimp only at h1 h2
     subst h1
     subst h2
     simp only [List.cons_append, List.nil_append]
     refine bP (aX (.cons bX (.cons bX .nil)) .refl (fun w0 h hh => dr (s := s) rfl hh)) ?_
     refine rC cX 2 rfl ?_
     refine ai ((yE b bl sz mo l d s B hl hB hm hok hkp).ok hp) V.LC  rfl (ar (.cons bX (.cons dS (.cons dS .nil)))) rfl ?_
     rintro _ _ ⟨rfl, rfl⟩
     refine rO cX 2 rfl ?_
     exact iu ((ad.vh hcs hk1 hk0).trans hp) fH ⟨rfl, rfl⟩ (sub (ar .nil) aw)
   ·refine rC cX 5 rfl ?_
    refine oV (ae V.s3 rfl an rfl) ?_
    refine rO cX 4 rfl ?_
    refine aN rfl (fun h64 => ?_) (fun h64 => ?_)
    ·have hcs : ¬ 0 < s.ay := by omega
     have hk1 : ¬ s.kind = -1 := by omega
     have hk0 : s.kind = 0 := by omega
     have hl0 : s.left = 0 := by omega
     refine rC cX 2 rfl ?_
     refine ai (zc b bl sz mo po s.out.length co li di s) V.Jy  rfl (ar .nil) rfl ?_
     rintro _ _ ⟨rfl, rfl⟩
     refine rO cX 2 rfl ?_
     exact iu (x := { s with kind := -1, ended := s.last }) (ad.sW hcs hk1 hk0 hl0) fH ⟨rfl, rfl⟩ ((aX (bD .nil) .refl (fun w0 h hh => dr (s := { s with kind := -1, ended := s.last }) rfl hh)).trans (aX (bD .nil) cC (fun w0 h hh => nw (s := { s with kind := -1, ended := s.last }) (by show (-1 : Int) ≤ 0; decide) hh)))
    ·rcases (ad.Ka B s.at_ mo { s with at_ := s.at_ + 8 } (aj.aS B s.at_ 8)) with hx | ⟨hx, e, hp⟩ | ⟨hx, s2, hp⟩
     ·refine rC cX 1 rfl ?_
      have hcs : ¬ 0 < s.ay := by omega
      have hk1 : ¬ s.kind = -1 := by omega
      have hk0 : s.kind = 0 := by omega
      have hl0 : ¬ s.left = 0 := by omega
      refine rC cX 5 rfl ?_
      refine oV (ae V.dO rfl an rfl) ?_
      refine dD (gv bl B s.at_ [] 0 8 hl hB (by omega) (by omega) (by omega)) V.fe rfl (.cons bX .nil) ?_
      rintro _ _ ⟨rfl, rfl⟩
      refine (dT (fu ?_))
      exact ev (ad.wW hcs hk1 hk0 hl0 hx) PE.end_ (aX (.cons az .nil) oc (fun w0 h hh => cR hh))
     ·refine rC cX 1 rfl ?_
      have hcs : ¬ 0 < s.ay := by omega
      have hk1 : ¬ s.kind = -1 := by omega
      have hk0 : s.kind = 0 := by omega
      have hl0 : ¬ s.left = 0 := by omega
      refine rC cX 5 rfl ?_
      refine oV (ae V.dO rfl an rfl) ?_
      refine ai (fK bl B s.at_ [] 0 8 hl hB (by omega) (by omega)) V.fe  rfl (.cons bX .nil) rfl ?_
      rintro _ _ ⟨rfl, rfl⟩
      refine oV (bC V.u3 Tryz.underlying5 rfl (lj (by omega) (by omega))) ?_
      refine dD ((oe b bl sz mo po co li di s (aj.aS B s.at_ 8) (by omega) hm).err (ad.Ir hp)) V.tK rfl (.cons az (.cons az .nil)) ?_
      rintro _ _ ⟨hpe, rfl⟩
      refine (dT (fu ?_))
      exact ev (ad.one_le hcs hk1 hk0 hl0 hx hp) hpe (sub (ar .nil) hJ)
     ·refine rC cX 1 rfl ?_
      have hcs : ¬ 0 < s.ay := by omega
      have hk1 : ¬ s.kind = -1 := by omega
      have hk0 : s.kind = 0 := by omega
      have hl0 : ¬ s.left = 0 := by omega
      refine rC cX 5 rfl ?_
      refine oV (ae V.dO rfl an rfl) ?_
      refine ai (fK bl B s.at_ [] 0 8 hl hB (by omega) (by omega)) V.fe  rfl (.cons bX .nil) rfl ?_
      rintro _ _ ⟨rfl, rfl⟩
      refine oV (bC V.u3 Tryz.underlying5 rfl (lj (by omega) (by omega))) ?_
      refine ai ((oe b bl sz mo po co li di { s with at_ := s.at_ + 8 } (aj.aS B s.at_ 8) (by omega) hm).ok hp) V.tK  rfl (.cons az (.cons az .nil)) rfl ?_
      rintro _ _ ⟨rfl, rfl⟩
      refine rO cX 2 rfl ?_
      obtain ⟨hroom, rfl⟩ := ad.qk hp
      refine gk dS (fun h hh => iO hh) ?_
      rintro ⟨po2, co2⟩ _
      dsimp only
      simp only [List.cons_append, List.nil_append]
      refine rC cX 4 rfl ?_
      refine oV (ae V.s3 rfl an rfl) ?_
      refine cS cX 3 rfl (by omega) ?_
      refine aT (bT V.s3 rfl rfl rfl (by exact cZ) (by exact Nat.le_of_ble_eq_true rfl) rfl) ?_
      refine rO cX 2 rfl ?_
      rw [show (s.left : Int) - 1 = ((s.left - 1 : Nat) : Int) from by omega]
      exact iu (x := { s with at_ := s.at_ + 8, left := s.left - 1, out := s.out ++ [(aj.aS B s.at_ 8)] }) (ad.A6 hcs hk1 hk0 hl0 hx hroom) fH ⟨rfl, rfl⟩ ((aX (bD .nil) .refl (fun w0 h hh => dr (s := { s with at_ := s.at_ + 8, left := s.left - 1, out := s.out ++ [(aj.aS B s.at_ 8)] }) (by simp) hh)).trans (aX (bD .nil) cC (fun w0 h hh => nw (s := { s with at_ := s.at_ + 8, left := s.left - 1, out := s.out ++ [(aj.aS B s.at_ 8)] }) (by show s.kind ≤ 0; omega) hh)))
end Go.Proofs.YtmaiakpjgomnpaaGreat
namespace Go.Sl
section
variable {C : Ctx} {E : Env} {L : List ab} {ty : TypeId}
def pF (P : Program) (t : TypeId) : Bool := match P.underlying t with | some (.interface _) => true | _ => false
theorem wB {t T : TypeId} {is : Array (String × TypeId)} {u : Value} (ht : C.P.underlying t = some (.interface is)) (d : Nat) (w : World) : (Op.equalIn (d + 1) t (.iface T u) .nilIface).run C.P w = .ok false w := by
  simp [Op.equalIn, run_underlying ht]
theorem wZ {t : TypeId} {is : Array (String × TypeId)} (ht : C.P.underlying t = some (.interface is)) (d : Nat) (w : World) : (Op.equalIn (d + 1) t .nilIface .nilIface).run C.P w = .ok true w := by
  simp [Op.equalIn, run_underlying ht]
theorem rB {x y : Operand} {t t' T : TypeId} {u : Value} (ht : pF C.P t = true) (hx : aq E x = some (.iface T u)) (hy : aq E y = some .nilIface) : cA C (.binOp .eql t x y t') ty E L (.bool false) L :=
  dV fun d pos aft g a w ha => by
    unfold pF at ht
    split at ht <;> try simp at ht
    rename_i is hds
    rw [jR d pos aft g (ha.eval hx) (ha.eval hy) (by simp [eqGuard])]
    have h := wB hds (T := T) (u := u) 9999 w
    simp only [binOp, Op.equal, Op.maxDepth, Sem.run_bind, h, Result.andThen_ok, Sem.run_pure]
theorem Dd {x : Operand} {t t' : TypeId} (ht : pF C.P t = true) (hx : aq E x = some .nilIface) : cA C (.binOp .eql t x (.const .nilIface) t') ty E L (.bool true) L :=
  dV fun d pos aft g a w ha => by
    unfold pF at ht
    split at ht <;> try simp at ht
    rename_i is hds
    rw [jR d pos aft g (ha.eval hx) (ha.eval (x := .const .nilIface) rfl) (by simp [eqGuard])]
    have h := wZ hds 9999 w
    simp only [binOp, Op.equal, Op.maxDepth, Sem.run_bind, h, Result.andThen_ok, Sem.run_pure]
theorem tU {x : Operand} {xT T : TypeId} {u : Value} (hc : mB C.P T = true) (hx : aq E x = some (.iface T u)) : cA C (.typeAssert x xT T true) ty E L (.tuple #[u, .bool true]) L :=
  dV fun d pos aft g a w ha => by
    unfold mB at hc
    split at hc <;> try simp at hc
    rename_i ds hne hds
    simp only [execOp, ha.eval hx, Instr.typeAssert, Sem.run_bind, run_underlying hds, Result.andThen_ok]
    cases ds <;> first | (exact absurd rfl (hne _)) | simp [Sem.run_pure]
theorem uh {x : Operand} {xT T t : TypeId} {u z : Value} (hc : mB C.P T = true) (hz : (C.P.info? T).bind (·.zero) = some z) (hn : t ≠ T) (hx : aq E x = some (.iface t u)) : cA C (.typeAssert x xT T true) ty E L (.tuple #[z, .bool false]) L :=
  dV fun d pos aft g a w ha => by
    unfold mB at hc
    split at hc <;> try simp at hc
    rename_i ds hne hds
    obtain ⟨i, hi, hz⟩ : ∃ i, C.P.info? T = some i ∧ i.zero = some z := by
      cases h : C.P.info? T with
      | none => rw [h] at hz; cases hz
      | some i => rw [h] at hz; exact ⟨i, rfl, hz⟩
    have hzv : (zeroValue T).run C.P w = .ok z w := by simp only [zeroValue, typeInfo, Sem.run_bind, run_program, Result.andThen_ok, hi, Sem.run_pure, hz]
    simp only [execOp, ha.eval hx, Instr.typeAssert, Sem.run_bind, run_underlying hds, Result.andThen_ok]
    cases ds <;> first | (exact absurd rfl (hne _)) | simp [Sem.run_pure, hn, hzv]
end
theorem vu {C : Ctx} {c : Code} {Q : Exit → Act → List Frame → World → Prop} {a : Act} {cs : List Frame} {w : World} {E : Env} {L : List ab} (ha : gm C E a) (hi : Inv C.w0 L w) (h : Wp C c (qr C fun e a w => Q e a cs w) E L) : c.wpS C.P Q a cs w := wpS_of_wp (Fu h a w ha hi)
theorem Cz {P : Program} {w0 : World} {X : List PanicEntry → List ab → Prop} (x y : Value) : gm ⟨P, w0, 19, [], X⟩ [(6, y), (0, x)] { tmps := #[x] ++ (Array.replicate 18 undef).setIfInBounds 5 y, defers := [] } := by
  refine ⟨rfl, by simp, fun d v hd => ?_⟩
  rw [Env.iZ] at hd
  split at hd
  · rename_i h; subst h; cases hd; simp
  · rw [Env.iZ] at hd
    split at hd
    · rename_i h; subst h; cases hd; simp
    · simp [Env.get] at hd
end Go.Sl
namespace Go.Sl
theorem aE.Qz {P : Program} {f : FuncId} {args : List Value} {Pre : List ab} {v0 : Value} {R : List ab → Prop} (h : aE P f args Pre (aO fun v G => v = v0 ∧ R G)) : aE P f args Pre (aO fun _ G => R G) := h.mono fun e G h => by
  rcases h with ⟨v, rfl, _, h⟩; exact ⟨v, rfl, h⟩
end Go.Sl
namespace Go.Proofs.YtmaiakpjgomnpaaGreat
open Go.Sl 
theorem Q0 : dR Tryz.prog ⟨[], []⟩ = true := by kernel_rfl
theorem V.Ag : pF Tryz.prog 20 = true := by kernel_rfl
theorem V.FL : (Tryz.prog.info? 194).bind (·.zero) = some (.agg #[]) := by kernel_rfl
theorem V.NN : (Tryz.prog.info? 237).bind (·.zero) = some (.agg #[]) := by kernel_rfl
theorem qm : ∀ (A M : List ab), fG (A ++ M) A M
  | [], M => .nil
  | a :: A, M => .cons .head (qm A M)
theorem Bg {w0 : World} {L : List ab} (b : Nat) (x e : Int) (t : TypeId) (pv : Value) (hp : PE e (ka t pv)) (older : List PanicEntry) (w : World) (hi : Inv w0 (ao b 27 [.int .i64 x] :: L) w) :
    CallsD Tryz.prog 178 #[.pointer (some ⟨b, 0, none⟩)] (.panicking ({ v := .iface t pv, recovered := false } :: older)) w fun e' u' w' =>
      e' = .returned (.tuple #[]) ∧ u' = .panicking ({ v := .iface t pv, recovered := true } :: older) ∧ Inv w0 (ao b 27 [.int .i64 e] :: L) w' := by
  refine callsD_of_wpS Tryz.func178 rfl fun c₀ cs hu => ?_
  apply wpS_seq
  apply wpS_region
  simp [wpOpsS, go_sem, recoverD, hu, Tryz.ntmps178, Exit.thenS]
  refine vu (C := ⟨Tryz.prog, w0, 19, [], fun _ _ => True⟩) (E := [(6, .iface t pv), (0, .pointer (some ⟨b, 0, none⟩))]) (Cz _ _) hi ?_
  rcases hp with ⟨h, rfl⟩ | ⟨h, rfl⟩ | ⟨h, _⟩
  · simp only [ka, List.cons.injEq, PanicEntry.mk.injEq, Value.iface.injEq, and_true] at h
    obtain ⟨rfl, rfl⟩ := h
    refine n9 ?_
    refine fb (a7 ?_)
    refine oV (rB V.Ag rfl rfl) ?_
    refine cB ?_
    refine ba ?_
    refine km rfl ?_
    refine fb (a7 ?_)
    refine oV (tU V.zI rfl) ?_
    iterate 2 refine oV (eW rfl rfl) ?_
    refine cB ?_
    refine ba ?_
    refine lS rfl ?_
    refine fb (a7 ?_)
    refine cn V.z194 rfl ?_
    intro bz
    refine aT (aH V.a194 rfl rfl (us := []) rfl rfl .head (by exact Nat.le_of_ble_eq_true rfl) rfl) ?_
    refine cB ?_
    refine ba ?_
    refine a7 ?_
    refine aT (bT V.rj rfl rfl rfl (.tail .head) (by exact Nat.le_of_ble_eq_true rfl) rfl) ?_
    refine cB ?_
    refine ks ?_
    intro a w ha hi
    exact ⟨ha.defers, _, rfl, .tuple #[], by simp [results, Tryz.results178], rfl, rfl, hi.tail⟩
  · simp only [ka, List.cons.injEq, PanicEntry.mk.injEq, Value.iface.injEq, and_true] at h
    obtain ⟨rfl, rfl⟩ := h
    refine n9 ?_
    refine fb (a7 ?_)
    refine oV (rB V.Ag rfl rfl) ?_
    refine cB ?_
    refine ba ?_
    refine km rfl ?_
    refine fb (a7 ?_)
    refine oV (uh V.zI V.FL (by decide) rfl) ?_
    iterate 2 refine oV (eW rfl rfl) ?_
    refine cB ?_
    refine ba ?_
    refine km rfl ?_
    refine fb (a7 ?_)
    refine oV (tU V.Db rfl) ?_
    iterate 2 refine oV (eW rfl rfl) ?_
    refine cB ?_
    refine ba ?_
    refine lS rfl ?_
    refine fb (a7 ?_)
    refine cn V.Lo rfl ?_
    intro bz
    refine aT (aH V.OM rfl rfl (us := []) rfl rfl .head (by exact Nat.le_of_ble_eq_true rfl) rfl) ?_
    refine cB ?_
    refine ba ?_
    refine a7 ?_
    refine aT (bT V.rj rfl rfl rfl (.tail .head) (by exact Nat.le_of_ble_eq_true rfl) rfl) ?_
    refine cB ?_
    refine ks ?_
    intro a w ha hi
    exact ⟨ha.defers, _, rfl, .tuple #[], by simp [results, Tryz.results178], rfl, rfl, hi.tail⟩
  · simp only [ka, List.cons.injEq, PanicEntry.mk.injEq, Value.iface.injEq, and_true] at h
    obtain ⟨rfl, rfl⟩ := h
    refine n9 ?_
    refine fb (a7 ?_)
    refine oV (rB V.Ag rfl rfl) ?_
    refine cB ?_
    refine ba ?_
    refine km rfl ?_
    refine fb (a7 ?_)
    refine oV (uh V.zI V.FL (by decide) rfl) ?_
    iterate 2 refine oV (eW rfl rfl) ?_
    refine cB ?_
    refine ba ?_
    refine km rfl ?_
    refine fb (a7 ?_)
    refine oV (uh V.Db V.NN (by decide) rfl) ?_
    iterate 2 refine oV (eW rfl rfl) ?_
    refine cB ?_
    refine ba ?_
    refine km rfl ?_
    refine fb (a7 ?_)
    refine oV (tU V.AH rfl) ?_
    iterate 2 refine oV (eW rfl rfl) ?_
    refine cB ?_
    refine ba ?_
    refine lS rfl ?_
    refine fb (a7 ?_)
    refine oV (dY rfl) ?_
    refine cB ?_
    refine ba ?_
    refine a7 ?_
    refine oV (aJ rfl) ?_
    refine aT (bT V.rj rfl rfl rfl .head (by exact Nat.le_of_ble_eq_true rfl) rfl) ?_
    refine cB ?_
    refine ks ?_
    intro a w ha hi
    exact ⟨ha.defers, _, rfl, .tuple #[], by simp [results, Tryz.results178], rfl, rfl, hi⟩
theorem Ap {w0 : World} {L : List ab} (b : Nat) (w : World) (hi : Inv w0 L w) :
    CallsD Tryz.prog 178 #[.pointer (some ⟨b, 0, none⟩)] .returning w fun e u' w' => e = .returned (.tuple #[]) ∧ u' = .returning ∧ Inv w0 L w' := by
  refine callsD_of_wpS Tryz.func178 rfl fun c₀ cs hu => ?_
  apply wpS_seq
  apply wpS_region
  simp [wpOpsS, go_sem, recoverD, hu, Tryz.ntmps178, Exit.thenS]
  refine vu (C := ⟨Tryz.prog, w0, 19, [], fun _ _ => True⟩) (E := [(6, .nilIface), (0, .pointer (some ⟨b, 0, none⟩))]) (Cz _ _) hi ?_
  refine n9 ?_
  refine fb (a7 ?_)
  refine oV (Dd V.Ag rfl) ?_
  refine cB ?_
  refine ba ?_
  refine lS rfl ?_
  refine a7 ?_
  refine oV (dY rfl) ?_
  refine cB ?_
  refine ks ?_
  intro a w ha hi
  cases c₀
  exact ⟨ha.defers, _, by simp_all, .tuple #[], by simp [results, Tryz.results178], rfl, rfl, hi⟩
theorem uU {C : Ctx} {a : Act} {E : Env} {L : List ab} {w : World} {b : Nat} {x : Int} (hP : C.P = Tryz.prog) (ha : gm C E a) (ht : E.get 2 = some (.pointer (some ⟨b, 0, none⟩))) (hi : Inv C.w0 (ao b 27 [.int .i64 x] :: L) w) :
    (results Tryz.f167 a.tmps).run Tryz.prog w = .ok (.int .i64 x) w := by
  have h1 := ha.get _ _ ht
  have h2 := hi.je 0
  simp only [List.getElem?_cons_zero] at h2
  simp [results, Tryz.results167, h1, go_sem, h2]
theorem DS {f : FuncId} {cs : List Value} {Pre : List ab} {R : List ab → Prop} (hS : aE Tryz.prog f cs Pre (aO fun _ G => R G)) (hb : aF Tryz.prog f = true) :
    aE Tryz.prog 167 [.func (.func f) #[] cs.toArray] Pre (aO fun v G => v = .int .i64 0 ∧ R G) := by
  refine xi [(0, _)] Tryz.func167 rfl Tryz.ntmps167 rfl rfl ?_
  intro w0 F
  refine pS (a7 ?_)
  refine cn V.NV rfl ?_
  intro b2
  refine cB ?_
  refine ba ?_
  refine wC (caps := [.tmp 2]) rfl rfl ?_
  refine pS ?_
  refine a7 ?_
  refine oV (aJ rfl) ?_
  refine tA (L' := Pre ++ (ao b2 27 [.int .i64 0] :: F)) List.perm_middle.symm ?_
  refine HQ (fs := []) (vs := []) (cs := cs) hS hb rfl rfl (qm _ _) rfl ?_
  intro v G hR
  refine cB ?_
  refine ba ?_
  refine pS ?_
  refine a7 ?_
  refine tA (L' := ao b2 27 [.int .i64 0] :: (G ++ F)) List.perm_middle ?_
  refine aT (bT V.rj rfl rfl rfl .head (by exact Nat.le_of_ble_eq_true rfl) rfl) ?_
  refine cB ?_
  refine ba ?_
  refine Fu (sY ?_)
  intro a w ha hi
  show Leaves _ _ _ _ a.defers _ _
  rw [ha.defers]
  refine leaves_cons (f := 178) (args := #[.pointer (some ⟨b2, 0, none⟩)]) (by simp) ?_ ?_
  · simp [invoke, gI V.Is]
  refine (Ap b2 w hi).mono ?_
  rintro e u' w' ⟨rfl, rfl, hi⟩
  exact ⟨.int .i64 0, uU rfl ha rfl hi, G, hi.tail, _, rfl, rfl, hR⟩
theorem Dz {f : FuncId} {cs : List Value} {Pre : List ab} {e : Int} {R : List ab → Prop} (hS : aE Tryz.prog f cs Pre (rk fun ch G => PE e ch ∧ R G)) (hb : aF Tryz.prog f = true) :
    aE Tryz.prog 167 [.func (.func f) #[] cs.toArray] Pre (aO fun v G => v = .int .i64 e ∧ R G) := by
  refine xi [(0, _)] Tryz.func167 rfl Tryz.ntmps167 rfl rfl ?_
  intro w0 F
  refine pS (a7 ?_)
  refine cn V.NV rfl ?_
  intro b2
  refine cB ?_
  refine ba ?_
  refine wC (caps := [.tmp 2]) rfl rfl ?_
  refine pS ?_
  refine a7 ?_
  refine oV (aJ rfl) ?_
  refine tA (L' := Pre ++ (ao b2 27 [.int .i64 0] :: F)) List.perm_middle.symm ?_
  refine Er (fs := []) (vs := []) (cs := cs) hS hb rfl rfl (qm _ _) ?_
  rintro ch G ⟨hp, hR⟩
  refine dT ?_
  intro a w ha hi
  show Leaves _ _ _ _ a.defers _ _
  rw [ha.defers]
  have hi2 : Inv w0 (ao b2 27 [.int .i64 0] :: (G ++ F)) w := hi.perm List.perm_middle
  refine leaves_cons (f := 178) (args := #[.pointer (some ⟨b2, 0, none⟩)]) (by simp) ?_ ?_
  · simp [invoke, gI V.Is]
  obtain ⟨t, u, rfl⟩ : ∃ t u, ch = ka t u := by
    rcases hp with ⟨h, _⟩ | ⟨h, _⟩ | ⟨h, _⟩ <;> exact ⟨_, _, h⟩
  refine (Bg b2 0 e t u hp [] w hi2).mono ?_
  rintro e' u' w' ⟨rfl, rfl, hi3⟩
  exact ⟨.int .i64 e, uU rfl ha rfl hi3, G, hi3.tail, _, rfl, rfl, hR⟩
end Go.Proofs.YtmaiakpjgomnpaaGreat
namespace Go.Proofs.YtmaiakpjgomnpaaGreat
open Go.Sl 
theorem oI : dR Tryz.prog ⟨[], []⟩ = true := by kernel_rfl
attribute [local irreducible] af.bU af.tk af.ord af.cK af.words af.c9 ad.iG ad.de ad.dz ad.eo ad.hL ad.hD ad.hC ad.fz ad.told ad.fT ad.jo ad.rep ad.fo ad.eG ad.sym ad.dG aj.aS ad.eY ad.dM ad.one ad.eX
theorem jQ {b bl : Nat} {sz mo : Int} {B : List Int} {s : ad.St} {w0 : World} {h : Hp} (hh : MM b bl sz mo B s w0 h) : ∃ i : Pv, True ∧ dg w0 [MS b bl sz mo i.li i.di s, LW bl B s.at_ [] 0, CD i.li i.di s] h := hh
def MD (b bl : Nat) (sz mo e : Int) : ab := fun w0 h => ∃ i : Vx, True ∧ dg w0 [ao b 223 [.pointer (some ⟨bl, 0, none⟩), .int .i64 sz, .int .i64 mo, .slice none 0 0, .bool true, .int .i64 e, i.v6, i.v7, i.v8, i.v9, i.v10, i.v11, i.v12]] h
theorem j9 {b bl : Nat} {sz mo e : Int} {v6 v7 v8 v9 v10 v11 v12 : Value} {w0 : World} {h : Hp}
  (hh : dg w0 [ao b 223 [.pointer (some ⟨bl, 0, none⟩), .int .i64 sz, .int .i64 mo, .slice none 0 0, .bool true, .int .i64 e, v6, v7, v8, v9, v10, v11, v12]] h) : MD b bl sz mo e w0 h := ⟨⟨.nilFunc, .nilFunc, .nilFunc, v6, v7, v8, v9, v10, v11, v12⟩, trivial, hh⟩
def MJ (b bl : Nat) (sz mo : Int) (B : List Int) : ad.Jt → ab
 | .ok s => MM b bl sz mo B s
 | .error e => MD b bl sz mo e
set_option maxHeartbeats 2000000 in
theorem ze (bm bw bn b bl : Nat) (sz mo : Int) (w : Nat) (n : Int) (s0 : ad.St) (o : Except Int ad.St) (B : List Int) (hl : B.length < 500000000) (hB : aj.av B) (hm : mo < 1000000000) (hw : w < 1000000000) (hok0 : ad.Ok B mo s0) (hlp0 : ad.Lp B mo w n s0 o) : aE Tryz.prog 168 [.pointer (some ⟨bm, 0, none⟩), .pointer (some ⟨bw, 0, none⟩), .pointer (some ⟨bn, 0, none⟩)] [ao bm 204 [.pointer (some ⟨b, 0, none⟩)], ao bw 3 [.int .i64 (w : Int)], ao bn 3 [.int .i64 n], MM b bl sz mo B s0] (iE o (fun s2 v G => v = .tuple #[] ∧ G = [ao bm 204 [.pointer (some ⟨b, 0, none⟩)], ao bw 3 [.int .i64 (w : Int)], ao bn 3 [.int .i64 n], MM b bl sz mo B s2]) [ao bm 204 [.pointer (some ⟨b, 0, none⟩)], ao bw 3 [.int .i64 (w : Int)], ao bn 3 [.int .i64 n], MX b bl sz mo]) := by
 refine au [(0, _), (1, _), (2, _)] Tryz.func168 rfl Tryz.ntmps168 rfl rfl ?_
 intro w0 F
 refine rT oI 1 rfl ?_
 refine dX (fun (s : ad.St) => [(0, .pointer (some ⟨bm, 0, none⟩)), (1, .pointer (some ⟨bw, 0, none⟩)), (2, .pointer (some ⟨bn, 0, none⟩))]) (fun (s : ad.St) => MM b bl sz mo B s :: ao bm 204 [.pointer (some ⟨b, 0, none⟩)] :: ao bw 3 [.int .i64 (w : Int)] :: ao bn 3 [.int .i64 n] :: F) (fun (s : ad.St) => ad.Ok B mo s ∧ ad.Lp B mo w n s o) (fun (s : ad.St) => ad.mu B s) (i1 (s0) ?_ (jg ln) (sub (.cons ed (ic .nil)) aw)) ?_
 ·exact ⟨hok0, hlp0⟩
 intro s
 rintro ⟨hok, hlp⟩
 rcases (Bool.eq_false_or_eq_true s.ended) with he | he
 ·refine rL oI 2 rfl ?_
  have hro := hok.room
  refine gk dS (fun h hh => jQ hh) ?_
  rintro ⟨li, di⟩ _
  dsimp only
  simp only [List.cons_append, List.nil_append]
  refine gC (fun h hh => iO hh) ?_
  rintro ⟨po, co⟩ _
  dsimp only
  simp only [List.cons_append, List.nil_append]
  refine wN [pz 0 [] [0], pz 1 [0] [], pz 3 [1] [], pz 7 [2] [], pz 15 [3] [], pz 31 [4] [], pz 63 [5] [0], pz 127 [6, 5] [], pz 255 [7, 5] [], pz 511 [8, 5] [], pz 1023 [9, 5] [], pz 63 [5] [1], pz 4095 [10, 11, 5] [], pz 63 [5] [2], pz 16383 [12, 13, 5] [], pz 32767 [5, 14] []] [⟨fun y => ao b 223 [.pointer (some ⟨bl, 0, none⟩), .int .i64 sz, .int .i64 mo, .slice po s.out.length co, .bool s.ended, .int .i64 0, .int .i64 s.kind, .int .i64 (s.left : Int), .bool s.last, li, di, .int .i64 (s.ay : Int), .int .i64 (s.cx : Int)], none, none, [3]⟩, ⟨fun y => Row U5 po s.out.length co s.out, none, none, []⟩, ⟨fun y => LW bl B s.at_ [] 0, none, none, []⟩, ⟨fun y => CD li di s, none, none, []⟩, ⟨fun y => ao bm 204 [.pointer (some ⟨b, 0, none⟩)], none, none, [0]⟩, ⟨fun y => ao bw 3 [.int .i64 (w : Int)], none, none, []⟩, ⟨fun y => ao bn 3 [.int .i64 n], none, none, []⟩] F V.mixed ?_
  refine nR (fun y FF hA => ae V.gG rfl an rfl) ?_
  refine nN ?_
  refine nG V.xo ?_
  refine nR (fun y FF hA => cH (v := .bool true) (ae V.s4 rfl an rfl) (by rw [he])) ?_
  refine nV (fun y hA L => cH (v := .bool false) (kO rfl) rfl) ?_
  refine nM ?_
  refine bQ _ (fun y => rfl) rfl rfl rfl (fun y hA L => eV rfl rfl ⟨rfl, rfl⟩) (by intros; rfl) (by intro y y2 h; rfl) ?_
  refine bQ _ (fun y => rfl) rfl rfl rfl (fun y hA L => eV rfl rfl ⟨rfl, rfl⟩) (by intros; rfl) (by intro y y2 h; rfl) ?_
  refine bQ _ (fun y => rfl) rfl rfl rfl (fun y hA L => eV rfl rfl ⟨rfl, rfl⟩) (by intros; rfl) (by intro y y2 h; rfl) ?_
  refine bQ _ (fun y => rfl) rfl rfl rfl (fun y hA L => eV rfl rfl ⟨rfl, rfl⟩) (by intros; rfl) (by intro y y2 h; rfl) ?_
  refine bQ _ (fun y => rfl) rfl rfl rfl (fun y hA L => eV rfl rfl ⟨rfl, rfl⟩) (by intros; rfl) (by intro y y2 h; rfl) ?_
  refine bQ _ (fun y => rfl) rfl rfl rfl (fun y hA L => eV rfl rfl ⟨rfl, rfl⟩) (by intros; rfl) (by intro y y2 h; rfl) ?_
  refine bQ _ (fun y => rfl) rfl rfl rfl (fun y hA L => eV rfl rfl ⟨rfl, rfl⟩) (by intros; rfl) (by intro y y2 h; rfl) ?_
  refine bQ _ (fun y => rfl) rfl rfl rfl (fun y hA L => eV rfl rfl ⟨rfl, rfl⟩) (by intros; rfl) (by intro y y2 h; rfl) ?_
  refine bQ _ (fun y => rfl) rfl rfl rfl (fun y hA L => eV rfl rfl ⟨rfl, rfl⟩) (by intros; rfl) (by intro y y2 h; rfl) ?_
  refine nV (fun y hA L => oq rfl rfl) ?_
  refine aU ?_
  intro y hA
  clear hA
  refine ba ?_
  refine bZ _ (.cons (d := 0) rfl (.cons (d := 1) rfl (.cons (d := 2) rfl (.cons (d := 18) rfl (.nil _))))) ?_
  refine bP (M := ao b 223 [.pointer (some ⟨bl, 0, none⟩), .int .i64 sz, .int .i64 mo, .slice po s.out.length co, .bool s.ended, .int .i64 0, .int .i64 s.kind, .int .i64 (s.left : Int), .bool s.last, li, di, .int .i64 (s.ay : Int), .int .i64 (s.cx : Int)] :: Row U5 po s.out.length co s.out :: LW bl B s.at_ [] 0 :: CD li di s :: ao bm 204 [.pointer (some ⟨b, 0, none⟩)] :: ao bw 3 [.int .i64 (w : Int)] :: ao bn 3 [.int .i64 n] :: F) (fun _ _ h => h) ?_
  refine rC oI 5 rfl ?_
  refine (fun hs => iu (x := s) (ad.FY hlp (by exact .inl he)) fH ⟨rfl, rfl⟩ (Sl.Sub.trans ((aX (bD .nil) .refl (fun w0 h hh => dr (s := s) rfl hh)).trans (aX (ic .nil) .refl (fun w0 h hh => fp (s := s) hh))) hs)) (sub (.cons az (.cons az (.cons az (ar .nil)))) aw)
 ·refine rL oI 2 rfl ?_
  have hro := hok.room
  refine gk dS (fun h hh => jQ hh) ?_
  rintro ⟨li, di⟩ _
  dsimp only
  simp only [List.cons_append, List.nil_append]
  refine gC (fun h hh => iO hh) ?_
  rintro ⟨po, co⟩ _
  dsimp only
  simp only [List.cons_append, List.nil_append]
  refine wN [pz 0 [] [0], pz 1 [0] [], pz 3 [1] [], pz 7 [2] [], pz 15 [3] [], pz 31 [4] [], pz 63 [5] [0], pz 127 [6, 5] [], pz 255 [7, 5] [], pz 511 [8, 5] [], pz 1023 [9, 5] [], pz 63 [5] [1], pz 4095 [10, 11, 5] [], pz 63 [5] [2], pz 16383 [12, 13, 5] [], pz 32767 [5, 14] []] [⟨fun y => ao b 223 [.pointer (some ⟨bl, 0, none⟩), .int .i64 sz, .int .i64 mo, .slice po s.out.length co, .bool s.ended, .int .i64 0, .int .i64 s.kind, .int .i64 (s.left : Int), .bool s.last, li, di, .int .i64 (s.ay : Int), .int .i64 (s.cx : Int)], none, none, [3, 9]⟩, ⟨fun y => Row U5 po s.out.length co s.out, none, none, []⟩, ⟨fun y => LW bl B s.at_ [] 0, none, none, []⟩, ⟨fun y => CD li di s, none, none, []⟩, ⟨fun y => ao bm 204 [.pointer (some ⟨b, 0, none⟩)], none, none, [0, 6]⟩, ⟨fun y => ao bw 3 [.int .i64 (w : Int)], none, none, [11]⟩, ⟨fun y => ao bn 3 [.int .i64 n], none, none, [13]⟩] F V.mixed ?_
  refine nR (fun y FF hA => ae V.gG rfl an rfl) ?_
  refine nN ?_
  refine nG V.xo ?_
  refine nR (fun y FF hA => cH (v := .bool false) (ae V.s4 rfl an rfl) (by rw [he])) ?_
  refine nV (fun y hA L => cH (v := .bool true) (kO rfl) rfl) ?_
  refine nM ?_
  refine jJ _ _ (fun y => rfl) rfl (fun y => rfl) rfl (fun y FF hA => eU rfl (du (ae V.gG rfl an rfl) ⟨rfl, rfl⟩)) (by intros; rfl) (by intro y y2 h; rfl) ?_
  refine bQ _ (fun y => rfl) rfl rfl rfl (fun y hA L => eU rfl (du (zv rfl) ⟨rfl, rfl⟩)) (by intros; rfl) (by intro y y2 h; rfl) ?_
  refine bQ _ (fun y => rfl) rfl rfl rfl (fun y hA L => eU rfl (du (aG V.kK rfl) ⟨rfl, rfl⟩)) (by intros; rfl) (by intro y y2 h; rfl) ?_
  refine jJ _ _ (fun y => rfl) rfl (fun y => rfl) rfl (fun y FF hA => eU rfl (du (ae V.ez rfl an rfl) ⟨rfl, rfl⟩)) (by intros; rfl) (by intro y y2 h; rfl) ?_
  refine bQ _ (fun y => rfl) rfl rfl rfl (fun y hA L => eU rfl (du (eu (ty' := 0) Tryz.underlying22 rfl) ⟨rfl, rfl⟩)) (by intros; rfl) (by intro y y2 h; rfl) ?_
  refine jJ _ _ (fun y => rfl) rfl (fun y => rfl) rfl (fun y FF hA => eU rfl (du (ae V.s3 rfl an rfl) ⟨rfl, rfl⟩)) (by intros; rfl) (by intro y y2 h; rfl) ?_
  refine bQ _ (fun y => rfl) rfl rfl rfl (fun y hA L => eU rfl (du (gh rfl rfl wI) ⟨rfl, rfl⟩)) (by intros; rfl) (by intro y y2 h; rfl) ?_
  refine jJ _ _ (fun y => rfl) rfl (fun y => rfl) rfl (fun y FF hA => eU rfl (du (ae V.s3 rfl an rfl) ⟨rfl, rfl⟩)) (by intros; rfl) (by intro y y2 h; rfl) ?_
  refine bQ _ (fun y => rfl) rfl rfl rfl (fun y hA L => eU rfl (du (bo rfl rfl) ⟨rfl, rfl⟩)) (by intros; rfl) (by intro y y2 h; rfl) ?_
  refine nV (fun y hA L => lJ rfl rfl) ?_
  refine aU ?_
  intro y hA
  clear hA
  refine ba ?_
  refine bZ _ (.cons (d := 0) rfl (.cons (d := 1) rfl (.cons (d := 2) rfl (.cons (d := 18) rfl (.nil _))))) ?_
  refine bP (M := ao b 223 [.pointer (some ⟨bl, 0, none⟩), .int .i64 sz, .int .i64 mo, .slice po s.out.length co, .bool s.ended, .int .i64 0, .int .i64 s.kind, .int .i64 (s.left : Int), .bool s.last, li, di, .int .i64 (s.ay : Int), .int .i64 (s.cx : Int)] :: Row U5 po s.out.length co s.out :: LW bl B s.at_ [] 0 :: CD li di s :: ao bm 204 [.pointer (some ⟨b, 0, none⟩)] :: ao bw 3 [.int .i64 (w : Int)] :: ao bn 3 [.int .i64 n] :: F) (fun _ _ h => h) ?_
  refine aN rfl (fun h18 => ?_) (fun h18 => ?_)
  ·refine rC oI 3 rfl ?_
   rcases (ad.gy (ad.one B mo s)) with ⟨e, hp⟩ | ⟨s2, hp⟩
   ·refine bP ((aX (bD .nil) .refl (fun w0 h hh => dr (s := s) rfl hh)).trans (aX (ic .nil) .refl (fun w0 h hh => fp (s := s) hh))) ?_
    refine a7 ?_
    refine oV (ae V.gG rfl bW rfl) ?_
    refine dD ((Fa b bl sz mo s B hl hB hm hok).err hp) V.JH rfl (ar .nil) ?_
    rintro _ _ ⟨hpe, rfl⟩
    refine (fu (dT (fu ?_)))
    exact ev (ad.M5 hlp he (by omega) hp) hpe (sub (.cons az (.cons az (.cons az (ar .nil)))) aw)
   ·refine bP ((aX (bD .nil) .refl (fun w0 h hh => dr (s := s) rfl hh)).trans (aX (ic .nil) .refl (fun w0 h hh => fp (s := s) hh))) ?_
    have hg := ad.lN hB hok hp
    refine a7 ?_
    refine oV (ae V.gG rfl bW rfl) ?_
    refine ai ((Fa b bl sz mo s B hl hB hm hok).ok hp) V.JH  rfl (ar .nil) rfl ?_
    rintro _ _ ⟨rfl, rfl⟩
    refine rO oI 2 rfl ?_
    refine j1 (s2) ?_ (jg ln) (sub (ny .nil) aw)
    exact ⟨⟨hg.ok, ad.Ni hlp he (by omega) hp⟩, hg.less⟩
  ·refine rC oI 4 rfl ?_
   refine (fun hs => iu (x := s) (ad.FY hlp (by exact .inr (by omega))) fH ⟨rfl, rfl⟩ (Sl.Sub.trans ((aX (bD .nil) .refl (fun w0 h hh => dr (s := s) rfl hh)).trans (aX (ic .nil) .refl (fun w0 h hh => fp (s := s) hh))) hs)) (sub (.cons az (.cons az (.cons az (ar .nil)))) aw)
end Go.Proofs.YtmaiakpjgomnpaaGreat

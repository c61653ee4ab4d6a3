/- Walks of functions that the law reaches, and what they lean on; no conditions. -/
import Derived.Test.YtmaiakpjgomnpaaGreatM0
import Derived.Test.YtmaiakpjgomnpaaGreatM4
import Derived.Test.YtmaiakpjgomnpaaGreatM2
import Derived.Test.YtmaiakpjgomnpaaGreatM1
import Derived.KernelRfl
import Derived.Test.YtmaiakpjgomnpaaGreatM8
set_option linter.unusedVariables false
set_option linter.unusedSimpArgs false
set_option maxRecDepth 100000
namespace Go.Proofs.YtmaiakpjgomnpaaGreat
open Go.Sl 
attribute [local irreducible] ag.an aa.aT aa.bK aa.deep aa.parts HW aa.aQ aa.fq aa.eV aa.dO aa.jq aa.fS aa.fa aa.de aa.eo aa.kY aa.want aa.aN aa.kM aa.mU aa.m0 aa.iF aH.mv aa.ba aa.aS aa.aY aa.a8 aa.bQ aa.eF aa.iy aa.iM aa.bU aa.cD aa.cut aa.dr aa.oU
theorem KZ (h : aa.Hd) (bf : Nat) (pp : Option Addr) (pl : List Int) (cp : Nat) (pt : Option Addr) (tr : List Int) (ct : Nat) (pd : Option Addr) (nd cd : Nat) (pk : Option Addr) (ck : Nat) (R : ad) (hP : ∀ w0 h, R w0 h → aF U5 pp pl.length pl w0 h) (hT : ∀ w0 h, R w0 h → aF U5 pt tr.length tr w0 h) (hcp : pl.length ≤ cp) (hB : ag.an pl) (hBt : ag.an tr) (hpl : pl.length < 500000000) (htl : tr.length < 500000000) (Rk : ad) (hRk : ∀ w0 h_, Rk w0 h_ → aF (aD 3 .i64) pk (aa.aQ h tr).length (aa.aQ h tr) w0 h_) (hf : aa.fq ⟨h, pl, tr⟩) (hs : aa.aT h.w h.h = 0) (q : Option Addr) (n c : Nat) (hn : (n : Int) = 4 * h.w * h.h) (hcap : n ≤ c) (pix : List Int) (hpx0 : pix.length = n) (p : aa.Ps) (hp : aa.fS p h.w h.h) (Dt : List Int) (hDB : ag.an Dt) (hDl : Dt.length < 500000000) (nr : Nat) (hnr : (nr : Int) = aa.de p.w (aa.parts h.ar * h.dep)) (back : Nat) (hback : (back : Int) = max 1 ((aa.parts h.ar * h.dep) / 8)) (at0 : Nat) (hat : at0 + p.h.toNat * (1 + nr) ≤ Dt.length) (pb : Option Addr) (cb : Nat) (Rb : ad) (hRb : ∀ w0 h, Rb w0 h → aF U5 pb (Dt.length - at0) (Dt.drop at0) w0 h) (hcb : Dt.length - at0 ≤ cb) (hr : aa.dO ⟨h, pl, tr⟩ Dt nr back p p.h.toNat 0 at0 [] pix = none) : az Tryz.prog 86 [.pointer (some ⟨bf, 0, none⟩), .agg #[.int .i64 h.w, .int .i64 h.h, .slice q n c], .agg #[.int .i64 p.x, .int .i64 p.y, .int .i64 p.dx, .int .i64 p.dy, .int .i64 p.w, .int .i64 p.h], .slice pb (Dt.length - at0) cb] [ai bf 90 [.int .i64 h.w, .int .i64 h.h, .int .i64 h.dep, .int .i64 h.ar, .bool h.aZ, .slice pp pl.length cp, .slice pt tr.length ct, .slice pd nd cd, .slice pk (aa.aQ h tr).length ck], Row (aD 62 .u16) q n c pix, Rk, Rb, R] (aG fun v G => v = .tuple #[.slice none 0 0, .bool false] ∧ ∃ P, P.length = n ∧ G = [ai bf 90 [.int .i64 h.w, .int .i64 h.h, .int .i64 h.dep, .int .i64 h.ar, .bool h.aZ, .slice pp pl.length cp, .slice pt tr.length ct, .slice pd nd cd, .slice pk (aa.aQ h tr).length ck], Row (aD 62 .u16) q n c P, Rk, Rb, R]) := by
 refine (w9 h bf pp pl cp pt tr ct pd nd cd pk ck R hP hT hcp hB hBt hpl htl Rk hRk hf hs q n c hn hcap pix hpx0 p hp Dt hDB hDl nr hnr back hback at0 hat pb cb Rb hRb hcb).mono ?_
 rintro e2 G ⟨v, rfl, (⟨_, rfl, P, h1, rfl⟩ | ⟨a, P, z, cz, h, _⟩)⟩
 ·exact ⟨_, rfl, rfl, P, h1, rfl⟩
 ·rw [hr] at h; cases h
theorem JX (h : aa.Hd) (bf : Nat) (pp : Option Addr) (pl : List Int) (cp : Nat) (pt : Option Addr) (tr : List Int) (ct : Nat) (pd : Option Addr) (nd cd : Nat) (pk : Option Addr) (ck : Nat) (R : ad) (hP : ∀ w0 h, R w0 h → aF U5 pp pl.length pl w0 h) (hT : ∀ w0 h, R w0 h → aF U5 pt tr.length tr w0 h) (hcp : pl.length ≤ cp) (hB : ag.an pl) (hBt : ag.an tr) (hpl : pl.length < 500000000) (htl : tr.length < 500000000) (Rk : ad) (hRk : ∀ w0 h_, Rk w0 h_ → aF (aD 3 .i64) pk (aa.aQ h tr).length (aa.aQ h tr) w0 h_) (hf : aa.fq ⟨h, pl, tr⟩) (hs : aa.aT h.w h.h = 0) (q : Option Addr) (n c : Nat) (hn : (n : Int) = 4 * h.w * h.h) (hcap : n ≤ c) (pix : List Int) (hpx0 : pix.length = n) (p : aa.Ps) (hp : aa.fS p h.w h.h) (Dt : List Int) (hDB : ag.an Dt) (hDl : Dt.length < 500000000) (nr : Nat) (hnr : (nr : Int) = aa.de p.w (aa.parts h.ar * h.dep)) (back : Nat) (hback : (back : Int) = max 1 ((aa.parts h.ar * h.dep) / 8)) (at0 : Nat) (hat : at0 + p.h.toNat * (1 + nr) ≤ Dt.length) (pb : Option Addr) (cb : Nat) (Rb : ad) (hRb : ∀ w0 h, Rb w0 h → aF U5 pb (Dt.length - at0) (Dt.drop at0) w0 h) (hcb : Dt.length - at0 ≤ cb) (a2 : Nat) (P2 : List Int) (hr : aa.dO ⟨h, pl, tr⟩ Dt nr back p p.h.toNat 0 at0 [] pix = some (a2, P2)) : az Tryz.prog 86 [.pointer (some ⟨bf, 0, none⟩), .agg #[.int .i64 h.w, .int .i64 h.h, .slice q n c], .agg #[.int .i64 p.x, .int .i64 p.y, .int .i64 p.dx, .int .i64 p.dy, .int .i64 p.w, .int .i64 p.h], .slice pb (Dt.length - at0) cb] [ai bf 90 [.int .i64 h.w, .int .i64 h.h, .int .i64 h.dep, .int .i64 h.ar, .bool h.aZ, .slice pp pl.length cp, .slice pt tr.length ct, .slice pd nd cd, .slice pk (aa.aQ h tr).length ck], Row (aD 62 .u16) q n c pix, Rk, Rb, R] (aG fun v G => ∃ pz cz, P2.length = n ∧ a2 = at0 + p.h.toNat * (1 + nr) ∧ (∀ w0 h, Rb w0 h → aF U5 pz (Dt.length - a2) (Dt.drop a2) w0 h) ∧ Dt.length - a2 ≤ cz ∧ v = .tuple #[.slice pz (Dt.length - a2) cz, .bool true] ∧ G = [ai bf 90 [.int .i64 h.w, .int .i64 h.h, .int .i64 h.dep, .int .i64 h.ar, .bool h.aZ, .slice pp pl.length cp, .slice pt tr.length ct, .slice pd nd cd, .slice pk (aa.aQ h tr).length ck], Row (aD 62 .u16) q n c P2, Rk, Rb, R]) := by
 refine (w9 h bf pp pl cp pt tr ct pd nd cd pk ck R hP hT hcp hB hBt hpl htl Rk hRk hf hs q n c hn hcap pix hpx0 p hp Dt hDB hDl nr hnr back hback at0 hat pb cb Rb hRb hcb).mono ?_
 rintro e2 G ⟨v, rfl, (⟨h, _⟩ | ⟨a, P, z, cz, h, h1, h2, h3, h4, rfl, rfl⟩)⟩
 ·rw [hr] at h; cases h
 ·rw [hr] at h; cases h; exact ⟨_, rfl, z, cz, h1, h2, h3, h4, rfl, rfl⟩
theorem OU (w h : Int) (hs : aa.aT w h = 0) : az Tryz.prog 85 [.int .i64 w, .int .i64 h] [] (aG fun v G => ∃ b : Nat, v = .tuple #[.agg #[.int .i64 w, .int .i64 h, .slice (some ⟨b, 0, none⟩) ((4 * w * h).toNat) ((4 * w * h).toNat)], .int .i64 0] ∧ G = [Row (aD 62 .u16) (some ⟨b, 0, none⟩) ((4 * w * h).toNat) ((4 * w * h).toNat) (List.replicate ((4 * w * h).toNat) 0)]) := by
 refine (TX w h).mono ?_
 rintro e2 G ⟨v, rfl, (⟨h1, _⟩ | ⟨_, b, rfl, rfl⟩)⟩
 ·exact absurd hs h1
 ·exact ⟨_, rfl, b, rfl, rfl⟩
set_option maxHeartbeats 8000000 in
theorem Rp (h : aa.Hd) (bf : Nat) (pp : Option Addr) (pl : List Int) (cp : Nat) (pt : Option Addr) (tr : List Int) (ct : Nat) (pd : Option Addr) (cd : Nat) (pk : Option Addr) (ck : Nat) (R : ad) (hP : ∀ w0 h, R w0 h → aF U5 pp pl.length pl w0 h) (hT : ∀ w0 h, R w0 h → aF U5 pt tr.length tr w0 h) (hcp : pl.length ≤ cp) (hB : ag.an pl) (hBt : ag.an tr) (hpl : pl.length < 500000000) (htl : tr.length < 500000000) (Rk : ad) (hRk : ∀ w0 h_, Rk w0 h_ → aF (aD 3 .i64) pk (aa.aQ h tr).length (aa.aQ h tr) w0 h_) (hf : aa.fq ⟨h, pl, tr⟩) (hs : aa.aT h.w h.h = 0) (Z : List Int) (hZB : ag.an Z) (hZl : Z.length < 500000000) (hcd : Z.length ≤ cd) (Rd : ad) (hRd : ∀ w0 h, Rd w0 h → aF U5 pd Z.length Z w0 h) (z : List Int × Int) (hz : aH.mv Z (aa.want h) z) : az Tryz.prog 42 [.pointer (some ⟨bf, 0, none⟩)] [ai bf 90 [.int .i64 h.w, .int .i64 h.h, .int .i64 h.dep, .int .i64 h.ar, .bool h.aZ, .slice pp pl.length cp, .slice pt tr.length ct, .slice pd Z.length cd, .slice pk (aa.aQ h tr).length ck], Rk, Rd, R] (aG fun v G => ∃ q n c, v = .tuple #[.agg #[.int .i64 (aa.kY ⟨h, pl, tr⟩ z).1.w, .int .i64 (aa.kY ⟨h, pl, tr⟩ z).1.h, .slice q n c], .int .i64 (aa.kY ⟨h, pl, tr⟩ z).2] ∧ (aa.kY ⟨h, pl, tr⟩ z).1.pix.length = n ∧ n ≤ c ∧ G = [Row (aD 62 .u16) q n c (aa.kY ⟨h, pl, tr⟩ z).1.pix]) := by
 refine au [(0, _)] Tryz.func42 rfl Tryz.ntmps42 rfl rfl ?_
 intro w0 F
 have hde : aa.deep h.ar h.dep := by unfold aa.fq at hf; exact hf.1
 have hpc := aa.gm hde
 have hdi := aa.iY (aa.gq hde)
 have hbits := aa.lg hde
 have hsd := aa.il hs
 have hs4 := aa.qv hs
 have hps := aa.ja hs
 have hwi := aa.Lt hs hde
 have hzbl := aa.SI hZB hwi.2 hz
 have hzB := hzbl.1
 have hzl := hzbl.2
 have hwn := aa.Ev hs hde
 refine (QD)<|(vp) ?_
 intro b2
 refine rO TT 4 rfl ?_
 refine jD [pz 0 [] [0], pz 1 [0] [], pz 3 [1] [], pz 7 [2] [], pz 15 [3] [], pz 0 [] [0], pz 32 [5] [], pz 96 [6] [], pz 224 [7] [], pz 480 [8] [], pz 1023 [4, 9] [], pz 2047 [10] []] [⟨fun y => ai b2 26 [.int .i64 0, .int .i64 0, .slice none 0 0], none, none, []⟩, ⟨fun y => ai bf 90 [.int .i64 h.w, .int .i64 h.h, .int .i64 h.dep, .int .i64 h.ar, .bool h.aZ, .slice pp pl.length cp, .slice pt tr.length ct, .slice pd Z.length cd, .slice pk (aa.aQ h tr).length ck], none, none, [4, 9]⟩, ⟨fun y => Rk, none, none, []⟩, ⟨fun y => Rd, none, none, []⟩, ⟨fun y => R, none, none, []⟩, ⟨fun y => Row PK (ed (y 10)) (aa.whole h.w h.h).length (fx (y 10)) (aa.whole h.w h.h), some 10, none, []⟩] F V.mixed (by kernel_rfl) rfl (fun _ => .refl _) (aP _ (aP _ (aP _ (aP _ (aP _ (cT _ rfl (by intro y y2 h; simp only [h 10 (.inl rfl)]) ft)))))) ?_
 refine nM ?_
 refine nN ?_
 refine nG V.gG ?_
 refine nG V.Bm ?_
 refine nR (fun y FF hA => aA V.s3 rfl aB rfl) ?_
 refine nM ?_
 refine nN ?_
 refine nG V.gG ?_
 refine nG V.tD ?_
 refine nR (fun y FF hA => aA V.s3 rfl aB rfl) ?_
 refine fc (fun y v => .slice (ed v) (aa.whole h.w h.h).length (fx v)) (fun y v => True) _ _ (fun y v => [Row PK (ed v) (aa.whole h.w h.h).length (fx v) (aa.whole h.w h.h)]) _ (fun y => rfl) (fun y => rfl) (fun y => rfl) (fun y => rfl) (fun y FF hA => vw (Lh h.w h.h hs) V.YU rfl .nil) (by intros; rfl) (by intros; rfl) (by intros; rfl) (by intro y y2 h; simp only [h 10 (.inl rfl)]) (by intro y y2 h; rfl) ?_
 refine ei _ (fun y => rfl) rfl rfl rfl (fun y hA L => dD (iO rfl) ⟨rfl, rfl⟩) (by intros; rfl) (by intro y y2 h; simp only [h 10 (.inr (by decide))]) ?_
 refine cG ?_
 intro y hA
 clear hA
 refine bj<|bE [(0, .pointer (some ⟨bf, 0, none⟩)), (2, .pointer (some ⟨b2, 0, none⟩)), (4, .slice (ed (y 10)) (aa.whole h.w h.h).length (fx (y 10)))] (.cons (d := 0) rfl (.cons (d := 2) rfl (.cons (d := 4) rfl (.nil _))))<|bo (M := ai b2 26 [.int .i64 0, .int .i64 0, .slice none 0 0] :: ai bf 90 [.int .i64 h.w, .int .i64 h.h, .int .i64 h.dep, .int .i64 h.ar, .bool h.aZ, .slice pp pl.length cp, .slice pt tr.length ct, .slice pd Z.length cd, .slice pk (aa.aQ h tr).length ck] :: Rk :: Rd :: R :: Row PK (ed (y 10)) (aa.whole h.w h.h).length (fx (y 10)) (aa.whole h.w h.h) :: F) (fun _ _ h => h) ?_
 generalize (ed (y 10)) = pw
 generalize (fx (y 10)) = cw
 refine zX (fun (pa : Option Addr) (ca : Nat) => [(0, .pointer (some ⟨bf, 0, none⟩)), (2, .pointer (some ⟨b2, 0, none⟩)), (4, .slice pa (aa.aN h).length ca)]) (fun (pa : Option Addr) (ca : Nat) => Row PK pa (aa.aN h).length ca (aa.aN h) :: ai b2 26 [.int .i64 0, .int .i64 0, .slice none 0 0] :: ai bf 90 [.int .i64 h.w, .int .i64 h.h, .int .i64 h.dep, .int .i64 h.ar, .bool h.aZ, .slice pp pl.length cp, .slice pt tr.length ct, .slice pd Z.length cd, .slice pk (aa.aQ h tr).length ck] :: Rk :: Rd :: R :: F) (fun (pa : Option Addr) (ca : Nat) => True) ?_ ?_
 ·rcases (aa.tf h.aZ) with hl1 | hl2
  ·refine rL TT 6 rfl ?_
   refine oV (cY (v := .bool true) (aA V.s4 rfl dm rfl) (congrArg Value.bool hl1)) ?_
   refine rO TT 3 rfl ?_
   refine jD [pz 0 [] [0], pz 1 [0] [], pz 3 [1] [], pz 7 [2] [], pz 15 [3] [], pz 0 [] [0], pz 32 [5] [], pz 96 [6] [], pz 224 [7] [], pz 480 [8] [], pz 1023 [4, 9] [], pz 2047 [10] []] [⟨fun y => ai b2 26 [.int .i64 0, .int .i64 0, .slice none 0 0], none, none, []⟩, ⟨fun y => ai bf 90 [.int .i64 h.w, .int .i64 h.h, .int .i64 h.dep, .int .i64 h.ar, .bool h.aZ, .slice pp pl.length cp, .slice pt tr.length ct, .slice pd Z.length cd, .slice pk (aa.aQ h tr).length ck], none, none, [4, 9]⟩, ⟨fun y => Rk, none, none, []⟩, ⟨fun y => Rd, none, none, []⟩, ⟨fun y => R, none, none, []⟩, ⟨fun y => Row PK pw (aa.whole h.w h.h).length cw (aa.whole h.w h.h), none, none, []⟩, ⟨fun y => Row PK (ed (y 10)) (aa.aE h.w h.h).length (fx (y 10)) (aa.aE h.w h.h), some 10, none, []⟩] F V.mixed (by kernel_rfl) rfl (fun _ => .refl _) (aP _ (aP _ (aP _ (aP _ (aP _ (aP _ (cT _ rfl (by intro y y2 h; simp only [h 10 (.inl rfl)]) ft))))))) ?_
   refine nM ?_
   refine nN ?_
   refine nG V.gG ?_
   refine nG V.Bm ?_
   refine nR (fun y FF hA => aA V.s3 rfl aB rfl) ?_
   refine nM ?_
   refine nN ?_
   refine nG V.gG ?_
   refine nG V.tD ?_
   refine nR (fun y FF hA => aA V.s3 rfl aB rfl) ?_
   refine fc (fun y v => .slice (ed v) (aa.aE h.w h.h).length (fx v)) (fun y v => True) _ _ (fun y v => [Row PK (ed v) (aa.aE h.w h.h).length (fx v) (aa.aE h.w h.h)]) _ (fun y => rfl) (fun y => rfl) (fun y => rfl) (fun y => rfl) (fun y FF hA => vw (Hl h.w h.h hs) V.YI rfl .nil) (by intros; rfl) (by intros; rfl) (by intros; rfl) (by intro y y2 h; simp only [h 10 (.inl rfl)]) (by intro y y2 h; rfl) ?_
   refine ei _ (fun y => rfl) rfl rfl rfl (fun y hA L => dD (iO rfl) ⟨rfl, rfl⟩) (by intros; rfl) (by intro y y2 h; simp only [h 10 (.inr (by decide))]) ?_
   refine cG ?_
   intro y hA
   clear hA
   show ij _ _ _ _ (ai b2 26 [.int .i64 0, .int .i64 0, .slice none 0 0] :: ai bf 90 [.int .i64 h.w, .int .i64 h.h, .int .i64 h.dep, .int .i64 h.ar, .bool h.aZ, .slice pp pl.length cp, .slice pt tr.length ct, .slice pd Z.length cd, .slice pk (aa.aQ h tr).length ck] :: Rk :: Rd :: R :: Row PK pw (aa.whole h.w h.h).length cw (aa.whole h.w h.h) :: Row PK (ed (y 10)) (aa.aE h.w h.h).length (fx (y 10)) (aa.aE h.w h.h) :: F)
   (rw [show (aa.aE h.w h.h) = (aa.aN h) from aa.Cq hl1]; exact j2 _ _ trivial (gK ln) (sub (.cons oQ (mj .nil)) bp))
  ·refine (Qm) ?_
   refine oV (cY (v := .bool false) (aA V.s4 rfl dm rfl) (congrArg Value.bool hl2))<|(Q8) ?_
   (rw [show (aa.whole h.w h.h) = (aa.aN h) from aa.Cr hl2]; exact j2 _ _ trivial (gK ln) (sub (.cons jM (mj .nil)) ak))
 ·intro pa ca
  rintro -
  refine (Qa) ?_
  refine wN [pz 0 [] [4], pz 0 [] [0], pz 2 [1] [], pz 6 [2] [], pz 14 [3] [], pz 30 [4] [], pz 62 [5] [], pz 0 [] [0], pz 128 [7] [], pz 384 [8] [], pz 896 [9] [], pz 1920 [10] [], pz 4094 [6, 11] [], pz 8191 [0, 12] [], pz 16383 [13] []] [⟨fun y => Row PK pa (aa.aN h).length ca (aa.aN h), none, none, [13]⟩, ⟨fun y => ai b2 26 [.int .i64 0, .int .i64 0, .slice none 0 0], none, none, []⟩, ⟨fun y => ai bf 90 [.int .i64 h.w, .int .i64 h.h, .int .i64 h.dep, .int .i64 h.ar, .bool h.aZ, .slice pp pl.length cp, .slice pt tr.length ct, .slice pd Z.length cd, .slice pk (aa.aQ h tr).length ck], none, none, [5, 11]⟩, ⟨fun y => Rk, none, none, []⟩, ⟨fun y => Rd, none, none, []⟩, ⟨fun y => R, none, none, []⟩] F V.mixed ?_
  iterate 2 refine nM ?_
  refine nN ?_
  refine nG V.gG ?_
  refine nG V.qM ?_
  refine nR (fun y FF hA => aA V.s3 rfl aB rfl) ?_
  refine nE (fun y FF hA => aV (Post := []) (iC h.ar) V.pZ rfl .nil (fun v G h => by rcases h with ⟨rfl, rfl⟩; exact ⟨rfl, .refl _⟩)) ?_
  refine nM ?_
  refine nN ?_
  refine nG V.gG ?_
  refine nG V.wx ?_
  refine nR (fun y FF hA => aA V.s3 rfl aB rfl) ?_
  refine nV (fun y hA L => gB (r := (aa.parts h.ar * h.dep)) rfl rfl wI) ?_
  refine nE (fun y FF hA => aV (Post := [Row PK pa (aa.aN h).length ca (aa.aN h)]) (Lm pa ca (aa.aN h) (aa.parts h.ar * h.dep) (Row PK pa (aa.aN h).length ca (aa.aN h)) (fun _ _ hh => hh.rd) hps.2 (fun p hp => (hps.1 p hp).2.1) ⟨by omega, by omega⟩) V.Yk rfl (aq .nil) (fun v G hh => by rcases hh with ⟨rfl, rfl⟩; exact ⟨congrArg (Value.int .i64) (aa.LO h), .refl _⟩)) ?_
  refine nA ?_
  refine cG ?_
  intro y hA
  clear hA
  refine bj<|bE [(0, .pointer (some ⟨bf, 0, none⟩)), (2, .pointer (some ⟨b2, 0, none⟩)), (4, .slice pa (aa.aN h).length ca), (5, .int .i64 (aa.want h))] (.cons (d := 0) rfl (.cons (d := 2) rfl (.cons (d := 4) rfl (.cons (d := 5) rfl (.nil _)))))<|bo (M := Row PK pa (aa.aN h).length ca (aa.aN h) :: ai b2 26 [.int .i64 0, .int .i64 0, .slice none 0 0] :: ai bf 90 [.int .i64 h.w, .int .i64 h.h, .int .i64 h.dep, .int .i64 h.ar, .bool h.aZ, .slice pp pl.length cp, .slice pt tr.length ct, .slice pd Z.length cd, .slice pk (aa.aQ h tr).length ck] :: Rk :: Rd :: R :: F) (fun _ _ h => h)<|(Qe) ?_
  refine oV (aA V.jV rfl dW rfl)<|(Q7) ?_
  refine aj (Ow pd cd Z Rd hRd hcd hZl hZB (aa.want h) hwi.2 z hz) V.X8  rfl (.cons ig .nil) rfl ?_
  rintro _ _ ⟨qz, cqz, rfl, rfl⟩
  refine (Qn) ?_
  rcases (aa.Xs ⟨h, pl, tr⟩ z) with ⟨h1, hw_⟩ | ⟨h1, h2, hw_⟩ | ⟨h1, h2⟩
  ·refine (Q5) ?_
   refine oV (cQ (cL rfl rfl) h1)<|(Q1)<|(vJ)<|(Q7)<|(RU)<|(Q1) ?_
   rw [hw_]
   exact af (dP V.fZ rfl iH rfl rfl) ⟨none, 0, 0, rfl, rfl, Nat.le_refl _, rfl⟩ ((cX (A := Row (aD 62 .u16) none 0 0 []) (fun w0 => Row.nil _ _ _)).trans (sub (aq .nil) Ib))
  ·refine (Q5) ?_
   refine oV (bV (cL rfl rfl) h1)<|(Qn) ?_
   refine oV (cQ (dV rfl rfl) h2)<|(Q1)<|(vJ)<|(RU)<|(Q1) ?_
   rw [hw_]
   exact af (dP V.fZ rfl iH rfl rfl) ⟨none, 0, 0, rfl, rfl, Nat.le_refl _, rfl⟩ ((cX (A := Row (aD 62 .u16) none 0 0 []) (fun w0 => Row.nil _ _ _)).trans (sub (aq .nil) Ib))
  ·refine (Q5) ?_
   refine oV (bV (cL rfl rfl) h1)<|(Qn) ?_
   refine oV (bV (dV rfl rfl) h2)<|(Qk) ?_
   refine gr (fun w hi => eS hi (show Row U5 qz z.1.length cqz z.1 ∈ _ by exact aB)) (fun hcz0 => ?_)
   refine jD [pz 0 [] [0], pz 1 [0] [], pz 3 [1] [], pz 7 [2] [], pz 15 [3] [], pz 0 [] [0], pz 32 [5] [], pz 96 [6] [], pz 224 [7] [], pz 480 [8] [], pz 1023 [4, 9] [], pz 2047 [10] [], pz 4095 [11] [], pz 4095 [11] [], pz 0 [] [], pz 24575 [14, 12] [], pz 65535 [13] []] [⟨fun y => Row U5 qz z.1.length cqz z.1, none, none, []⟩, ⟨fun y => Rd, none, none, []⟩, ⟨fun y => Row PK pa (aa.aN h).length ca (aa.aN h), none, none, []⟩, ⟨fun y => ai b2 26 [.int .i64 0, .int .i64 0, .slice none 0 0], none, none, []⟩, ⟨fun y => ai bf 90 [.int .i64 h.w, .int .i64 h.h, .int .i64 h.dep, .int .i64 h.ar, .bool h.aZ, .slice pp pl.length cp, .slice pt tr.length ct, .slice pd Z.length cd, .slice pk (aa.aQ h tr).length ck], none, none, [4, 9]⟩, ⟨fun y => Rk, none, none, []⟩, ⟨fun y => R, none, none, []⟩, ⟨fun y => Row (aD 62 .u16) (some ⟨vV (y 10), 0, none⟩) ((4 * h.w * h.h).toNat) ((4 * h.w * h.h).toNat) (List.replicate ((4 * h.w * h.h).toNat) 0), some 10, none, []⟩, ⟨fun y => ai (fe (y 14)) 26 [.int .i64 0, .int .i64 0, .slice none 0 0], some 14, some 15, []⟩, ⟨fun y => ai (fe (y 14)) 26 [.int .i64 h.w, .int .i64 h.h, .slice (some ⟨vV (y 10), 0, none⟩) ((4 * h.w * h.h).toNat) ((4 * h.w * h.h).toNat)], some 15, none, []⟩] F V.mixed (by kernel_rfl) rfl (fun _ => .refl _) (aP _ (aP _ (aP _ (aP _ (aP _ (aP _ (aP _ (cT _ rfl (by intro y y2 h; simp only [h 10 (.inl rfl)]) (cT _ rfl (by intro y y2 h; simp only [h 14 (.inl rfl)]) (cT _ rfl (by intro y y2 h; simp only [h 10 (.inr (by decide)), h 14 (.inr (by decide))]) ft)))))))))) ?_
   refine nM ?_
   refine nN ?_
   refine nG V.gG ?_
   refine nG V.Bm ?_
   refine nR (fun y FF hA => aA V.s3 rfl aB rfl) ?_
   refine nM ?_
   refine nN ?_
   refine nG V.gG ?_
   refine nG V.tD ?_
   refine nR (fun y FF hA => aA V.s3 rfl aB rfl) ?_
   refine fc (fun y v => .tuple #[.agg #[.int .i64 h.w, .int .i64 h.h, .slice (some ⟨vV v, 0, none⟩) ((4 * h.w * h.h).toNat) ((4 * h.w * h.h).toNat)], .int .i64 0]) (fun y v => True) _ _ (fun y v => [Row (aD 62 .u16) (some ⟨vV v, 0, none⟩) ((4 * h.w * h.h).toNat) ((4 * h.w * h.h).toNat) (List.replicate ((4 * h.w * h.h).toNat) 0)]) _ (fun y => rfl) (fun y => rfl) (fun y => rfl) (fun y => rfl) (fun y FF hA => wK (α := Nat) (fun b => .tuple #[.agg #[.int .i64 h.w, .int .i64 h.h, .slice (some ⟨b, 0, none⟩) ((4 * h.w * h.h).toNat) ((4 * h.w * h.h).toNat)], .int .i64 0]) vV (fun b => [Row (aD 62 .u16) (some ⟨b, 0, none⟩) ((4 * h.w * h.h).toNat) ((4 * h.w * h.h).toNat) (List.replicate ((4 * h.w * h.h).toNat) 0)]) (OU h.w h.h hs) (fun a => rfl) V.YF rfl .nil) (by intros; rfl) (by intros; rfl) (by intros; rfl) (by intro y y2 h; simp only [h 10 (.inl rfl)]) (by intro y y2 h; rfl) ?_
   refine ei _ (fun y => rfl) rfl rfl rfl (fun y hA L => dD (fY rfl) ⟨rfl, rfl⟩) (by intros; rfl) (by intro y y2 h; simp only [h 10 (.inr (by decide))]) ?_
   refine ei _ (fun y => rfl) rfl rfl rfl (fun y hA L => dD (dQ rfl rfl) ⟨rfl, rfl⟩) (by intros; rfl) (by intro y y2 h; simp only [h 10 (.inr (by decide))]) ?_
   refine nV (fun y hA L => dQ rfl rfl) ?_
   refine fc (fun y v => .pointer (some ⟨fe v, 0, none⟩)) (fun y v => True) _ _ (fun y v => [ai (fe v) 26 [.int .i64 0, .int .i64 0, .slice none 0 0]]) _ (fun y => rfl) (fun y => rfl) (fun y => rfl) (fun y => rfl) (fun y FF hA => vR (uF V.vn)) (by intros; rfl) (by intros; rfl) (by intros; rfl) (by intro y y2 h; simp only [h 14 (.inl rfl)]) (by intro y y2 h; rfl) ?_
   refine nE (fun y FF hA => dD (bb V.fZ rfl rfl (us := [_, _, _]) rfl rfl (by exact fI) (by exact Nat.le_of_ble_eq_true rfl) rfl) ⟨rfl, .refl _⟩) ?_
   refine nA ?_
   refine cG ?_
   intro y hA
   clear hA
   refine bj<|bE [(0, .pointer (some ⟨bf, 0, none⟩)), (2, .pointer (some ⟨b2, 0, none⟩)), (4, .slice pa (aa.aN h).length ca), (6, .slice qz z.1.length cqz), (8, .pointer (some ⟨(fe (y 14)), 0, none⟩))] (.cons (d := 0) rfl (.cons (d := 2) rfl (.cons (d := 4) rfl (.cons (d := 6) rfl (.cons (d := 8) rfl (.nil _))))))<|bo (M := Row U5 qz z.1.length cqz z.1 :: Rd :: Row PK pa (aa.aN h).length ca (aa.aN h) :: ai b2 26 [.int .i64 0, .int .i64 0, .slice none 0 0] :: ai bf 90 [.int .i64 h.w, .int .i64 h.h, .int .i64 h.dep, .int .i64 h.ar, .bool h.aZ, .slice pp pl.length cp, .slice pt tr.length ct, .slice pd Z.length cd, .slice pk (aa.aQ h tr).length ck] :: Rk :: R :: Row (aD 62 .u16) (some ⟨vV (y 10), 0, none⟩) ((4 * h.w * h.h).toNat) ((4 * h.w * h.h).toNat) (List.replicate ((4 * h.w * h.h).toNat) 0) :: ai (fe (y 14)) 26 [.int .i64 h.w, .int .i64 h.h, .slice (some ⟨vV (y 10), 0, none⟩) ((4 * h.w * h.h).toNat) ((4 * h.w * h.h).toNat)] :: F) (fun _ _ h => h) ?_
   generalize (vV (y 10)) = bq
   generalize (fe (y 14)) = b8
   refine rC TT 14 rfl ?_
   rw [show List.replicate ((4 * h.w * h.h).toNat) 0 = aa.jd h from by unfold aa.jd; rfl]
   obtain ⟨RES, hRES⟩ : ∃ r, r = aa.eo ⟨h, pl, tr⟩ z.1 (aa.aN h) 0 (aa.jd h) := ⟨_, rfl⟩
   have h2w : ¬ (z.1.length : Int) < aa.want h := h2
   refine uv (fun (i : Nat) (a : Nat) (pz : Option Addr) (cz : Nat) (P : List Int) => [(0, .pointer (some ⟨bf, 0, none⟩)), (2, .pointer (some ⟨b2, 0, none⟩)), (6, .slice pz (z.1.length - a) cz), (8, .pointer (some ⟨b8, 0, none⟩)), (88, .slice pa (aa.aN h).length ca), (89, .int .i64 ((aa.aN h).length : Int)), (90, .int .i64 (i : Int))]) (fun (i : Nat) (a : Nat) (pz : Option Addr) (cz : Nat) (P : List Int) => ai b8 26 [.int .i64 h.w, .int .i64 h.h, .slice (some ⟨bq, 0, none⟩) ((4 * h.w * h.h).toNat) ((4 * h.w * h.h).toNat)] :: Row (aD 62 .u16) (some ⟨bq, 0, none⟩) ((4 * h.w * h.h).toNat) ((4 * h.w * h.h).toNat) P :: Row PK pa (aa.aN h).length ca (aa.aN h) :: Row U5 qz z.1.length cqz z.1 :: ai b2 26 [.int .i64 0, .int .i64 0, .slice none 0 0] :: ai bf 90 [.int .i64 h.w, .int .i64 h.h, .int .i64 h.dep, .int .i64 h.ar, .bool h.aZ, .slice pp pl.length cp, .slice pt tr.length ct, .slice pd Z.length cd, .slice pk (aa.aQ h tr).length ck] :: Rk :: Rd :: R :: F) (fun (i : Nat) (a : Nat) (pz : Option Addr) (cz : Nat) (P : List Int) => i ≤ (aa.aN h).length ∧ P.length = ((4 * h.w * h.h).toNat) ∧ a + aa.m0 (aa.bitsOf h) ((aa.aN h).drop i) ≤ z.1.length ∧ (∀ w0 h, (Row U5 qz z.1.length cqz z.1) w0 h → aF U5 pz (z.1.length - a) (z.1.drop a) w0 h) ∧ z.1.length - a ≤ cz ∧ aa.eo ⟨h, pl, tr⟩ z.1 ((aa.aN h).drop i) a P = RES) (fun (i : Nat) (a : Nat) (pz : Option Addr) (cz : Nat) (P : List Int) => (aa.aN h).length - i) (i5 (0) (0) (qz) (cqz) (aa.jd h) ?_ (gI (bB ln)) (sub (.cons Sb (.cons Jk (.cons bg (aq (.cons aw (.cons aw (.cons aw (.cons cW (.cons cW .nil))))))))) ak)) ?_
   ·exact ⟨Nat.zero_le _, List.length_replicate, by rw [List.drop_zero]; show 0 + _ ≤ _; omega, (fun _ _ hh => hh.rd), hcz0, hRES.symm⟩
   intro i a pz cz P
   rintro ⟨hi, hPl, hat, hzr, hzc, hres⟩
   refine (Qm) ?_
   refine aC rfl (fun h91 => ?_) (fun h91 => ?_)
   ·refine (Qe) ?_
    obtain ⟨x, hx⟩ : ∃ x, x = (PK.g (aa.aN h) (i : Int)) := ⟨_, rfl⟩
    have hx2 : x = (aa.aN h).getD i ⟨0, 0, 0, 0, 0, 0⟩ := hx
    have hxi := hps.1 x (hx2 ▸ aa.Hn (by omega))
    have hne := aa.N7 (bits := aa.bitsOf h) (by omega) hx2
    refine (Qo) ?_
    refine oV (xI V.uf (own dW))<|oV (cY (v := .agg #[.int .i64 x.x, .int .i64 x.y, .int .i64 x.dx, .int .i64 x.dy, .int .i64 x.w, .int .i64 x.h]) (kT (c := PK) V.a145 rfl (own dW) (by omega) (by omega) rfl) (by rw [hx]))<|cS V.z145 rfl ?_
    intro b12
    refine (Sp)<|(Q6) ?_
    rcases (aa.XM (aa.dO ⟨h, pl, tr⟩ z.1 (aa.kM h x) (aa.mU h) x x.h.toNat 0 a [] P)) with hr | ⟨a2, P2, hr⟩
    ·refine (Q5)<|(rz)<|(NW)<|(Q7) ?_
     refine aj (KZ h bf pp pl cp pt tr ct pd Z.length cd pk ck R hP hT hcp hB hBt hpl htl Rk hRk hf hs (some ⟨bq, 0, none⟩) ((4 * h.w * h.h).toNat) ((4 * h.w * h.h).toNat) (by omega) (Nat.le_refl _) P hPl x hxi.1 z.1 hzB hzl (aa.kM h x) (aa.Aw hxi.2.1 hde) (aa.mU h) (aa.zy h) a (by rw [hne] at hat; unfold aa.kM; omega) pz cz (Row U5 qz z.1.length cqz z.1) hzr hzc hr) V.WK  rfl (.cons oQ (.cons bg (.cons jM (.cons c9 (.cons jM .nil))))) rfl ?_
     rintro _ _ ⟨rfl, P2, hP2, rfl⟩
     refine rO TT 16 rfl<|(vJ) ?_
     refine cy (bb V.fZ rfl rfl (us := [_, _, _]) rfl rfl (by exact YR) (by exact Nat.le_of_ble_eq_true rfl) rfl)<|(Qn) ?_
     rw [aa.IW (f := ⟨h, pl, tr⟩) h1 h2 (hRES.symm.trans (aa.Of (f := ⟨h, pl, tr⟩) (by omega) hx2 hr hres))]
     exact af (dP V.fZ rfl YN rfl rfl) ⟨none, 0, 0, rfl, rfl, Nat.le_refl _, rfl⟩ ((cX (A := Row (aD 62 .u16) none 0 0 []) (fun w0 => Row.nil _ _ _)).trans (sub (aq .nil) WX))
    ·refine (Q5)<|(rz)<|(NW)<|(Q7) ?_
     refine aj (JX h bf pp pl cp pt tr ct pd Z.length cd pk ck R hP hT hcp hB hBt hpl htl Rk hRk hf hs (some ⟨bq, 0, none⟩) ((4 * h.w * h.h).toNat) ((4 * h.w * h.h).toNat) (by omega) (Nat.le_refl _) P hPl x hxi.1 z.1 hzB hzl (aa.kM h x) (aa.Aw hxi.2.1 hde) (aa.mU h) (aa.zy h) a (by rw [hne] at hat; unfold aa.kM; omega) pz cz (Row U5 qz z.1.length cqz z.1) hzr hzc a2 P2 hr) V.WK  rfl (.cons oQ (.cons bg (.cons jM (.cons c9 (.cons jM .nil))))) rfl ?_
     rintro _ _ ⟨pz2, cz2, hP2, ha2, hz2, hcz2, rfl, rfl⟩
     exact gV TT 21 rfl (by omega)<|j5 (i + 1) a2 pz2 cz2 P2 ⟨⟨by omega, hP2, by rw [ha2]; rw [hne] at hat; unfold aa.kM; omega, hz2, hcz2, aa.RT (f := ⟨h, pl, tr⟩) (by omega) hx2 hr hres⟩, by omega⟩ (gI (bB ln)) (sub (.cons oQ (.cons aw (.cons jM (.cons bg (.cons ig (aO (.cons bg (.cons cW .nil)))))))) bp)
   ·refine (Qs)<|(rB)<|(SH)<|(Q8) ?_
    rw [aa.JH (f := ⟨h, pl, tr⟩) h1 h2 (hRES.symm.trans (aa.M6 (by omega) hres))]
    exact af (dP V.fZ rfl jR rfl rfl) ⟨_, _, _, rfl, hPl, Nat.le_refl _, rfl⟩ (sub (.cons aw .nil) Is)
theorem OO (p : Option Addr) (c : Nat) (B : List Int) (R : ad) (hR : ∀ w0 h, R w0 h → aF U5 p B.length B w0 h) (hl : B.length < 500000000) (hB : ag.an B) (hcap : B.length ≤ c) (e : Int) (hc : aa.cut B = .error e) : az Tryz.prog 37 [.slice p B.length c] [R] (aG fun v G => v = .tuple #[.slice none 0 0, .int .i64 e] ∧ G = [R]) := by
 refine (JG p c B R hR hl hB hcap).mono ?_
 rintro e2 G ⟨v, rfl, (⟨e', h, rfl, rfl⟩ | ⟨q, cq, es, h, _⟩)⟩
 ·rw [hc] at h; cases h; exact ⟨_, rfl, rfl, rfl⟩
 ·rw [hc] at h; cases h
theorem OD (p : Option Addr) (c : Nat) (B : List Int) (R : ad) (hR : ∀ w0 h, R w0 h → aF U5 p B.length B w0 h) (hl : B.length < 500000000) (hB : ag.an B) (hcap : B.length ≤ c) (l : List aa.Ch) (hc : aa.cut B = .ok l) : az Tryz.prog 37 [.slice p B.length c] [R] (aG fun v G => ∃ q cq, ∃ es : List Ce, l = es.map Ce.ch ∧ es.length ≤ 262144 ∧ (∀ y ∈ es, zU y) ∧ v = .tuple #[.slice q es.length cq, .int .i64 0] ∧ G = [Row CK q es.length cq es, DK es, R]) := by
 refine (JG p c B R hR hl hB hcap).mono ?_
 rintro e2 G ⟨v, rfl, (⟨e', h, _⟩ | ⟨q, cq, es, h, h1, h2, rfl, rfl⟩)⟩
 ·rw [hc] at h; cases h
 ·rw [hc] at h; cases h; exact ⟨_, rfl, q, cq, es, rfl, h1, h2, rfl, rfl⟩
theorem DI {B : List Int} {es : List Ce} (hB : ag.an B) (hc : aa.cut B = .ok (es.map Ce.ch)) : Ii es := fun x hx => aa.Tn hB hc x.ch (List.mem_map_of_mem hx)
theorem pK (es : List Ce) : aa.dr (es.map Ce.ch) = (CK.g es 0).d := by
 unfold aa.dr
 cases es <;> rfl
theorem OR {es : List Ce} (h : 0 < es.length) : CK.g es 0 ∈ es := by
 match es, h with
 | x :: es, _ => exact List.mem_cons_self ..
theorem uO {es : List Ce} {s : o7} (hs : lE es es.length s) (ho : aa.cD (es.map Ce.ch) = true) : s.P = aa.bD (es.map Ce.ch) aa.aS ∧ s.T = aa.bD (es.map Ce.ch) aa.aY ∧ s.D = aa.bU (es.map Ce.ch) ∧ s.hp = aa.dZ (es.map Ce.ch) aa.aS ∧ s.ht = aa.dZ (es.map Ce.ch) aa.aY := by
 obtain ⟨h1, h2, h3, h4, h5, _⟩ := hs
 have e : (es.map Ce.ch).take es.length = es.map Ce.ch := List.take_of_length_le (by rw [List.length_map]; exact Nat.le_refl _)
 rw [e] at h1 h2 h3 h4 h5
 have hl := aa.G1 ho
 exact ⟨h1.trans hl.1, h2.trans hl.2, h3, h4, h5⟩
theorem qL (h : aa.Hd) (hd : aa.iA h.dep) (bf : Nat) (pp : Option Addr) (pl : List Int) (cp : Nat) (pt : Option Addr) (tr : List Int) (ct : Nat) (pd : Option Addr) (nd cd : Nat) (pk : Option Addr) (nk ck : Nat) (hl : pl.length < 500000000) (has : Bool) (t : Bool) (ht : t = decide (aa.iy h pl has)) : az Tryz.prog 40 [.pointer (some ⟨bf, 0, none⟩), .bool has] [ai bf 90 [.int .i64 h.w, .int .i64 h.h, .int .i64 h.dep, .int .i64 h.ar, .bool h.aZ, .slice pp pl.length cp, .slice pt tr.length ct, .slice pd nd cd, .slice pk nk ck]] (aG fun v G => v = .bool t ∧ G = [ai bf 90 [.int .i64 h.w, .int .i64 h.h, .int .i64 h.dep, .int .i64 h.ar, .bool h.aZ, .slice pp pl.length cp, .slice pt tr.length ct, .slice pd nd cd, .slice pk nk ck]]) := by
 cases has with
 | true => exact Dk h hd bf pp pl cp pt tr ct pd nd cd pk nk ck hl t ht
 | false => exact CH h hd bf pp pl cp pt tr ct pd nd cd pk nk ck hl t ht
theorem xt (h : aa.Hd) (hd : aa.iA h.dep) (bf : Nat) (pp : Option Addr) (pl : List Int) (cp : Nat) (pt : Option Addr) (tr : List Int) (ct : Nat) (pd : Option Addr) (nd cd : Nat) (hpl : pl.length < 500000000) (htl : tr.length < 500000000) (hB : ag.an tr) (R : ad) (hR : ∀ w0 h, R w0 h → aF U5 pt tr.length tr w0 h) (is : Bool) (hi : is = false → tr = []) (t : Bool) (ht : t = decide (aa.iM h pl tr is)) : az Tryz.prog 41 [.pointer (some ⟨bf, 0, none⟩), .bool is] [ai bf 90 [.int .i64 h.w, .int .i64 h.h, .int .i64 h.dep, .int .i64 h.ar, .bool h.aZ, .slice pp pl.length cp, .slice pt tr.length ct, .slice pd nd cd, .slice none 0 0], R] (aG fun v G => ∃ pk nk ck K, (t = true → K = aa.aQ h tr) ∧ K.length = nk ∧ v = .bool t ∧ G = [ai bf 90 [.int .i64 h.w, .int .i64 h.h, .int .i64 h.dep, .int .i64 h.ar, .bool h.aZ, .slice pp pl.length cp, .slice pt tr.length ct, .slice pd nd cd, .slice pk nk ck], Row (aD 3 .i64) pk nk ck K, R]) := by
 cases is with
 | true => exact Bv h hd bf pp pl cp pt tr ct pd nd cd hpl htl hB R hR t ht
 | false =>
  have e := BI h hd bf pp pl cp pt tr ct pd nd cd hpl (hi rfl) htl hB t (ht.trans (decide_eq_true (aa.O2 h pl tr)))
  refine (e.frame [R]).mono ?_
  rintro e2 G ⟨v, rfl, G', ⟨pk, nk, ck, K, h1, h2, h3, rfl⟩, rfl⟩
  exact ⟨_, rfl, pk, nk, ck, K, h1, h2, h3, rfl⟩
set_option maxHeartbeats 16000000 in
theorem rQ (p : Option Addr) (c : Nat) (B : List Int) (R : ad) (hR : ∀ w0 h, R w0 h → aF U5 p B.length B w0 h) (hl : B.length < 500000000) (hB : ag.an B) (hcap : B.length ≤ c) (r : aa.pC × Int) (hr0 : aa.ku B r) : az Tryz.prog 14 [.slice p B.length c] [R] (aG fun v G => ∃ q n c2, v = .tuple #[.agg #[.int .i64 r.1.w, .int .i64 r.1.h, .slice q n c2], .int .i64 r.2] ∧ r.1.pix.length = n ∧ n ≤ c2 ∧ G = [Row (aD 62 .u16) q n c2 r.1.pix, R]) := by
 refine au [(0, _)] Tryz.func14 rfl Tryz.ntmps14 rfl rfl ?_
 intro w0 F
 refine (QD)<|(vp) ?_
 intro b2
 refine (Qi) ?_
 rcases (hr0.X0) with ⟨e, h1, hr⟩ | ⟨l, h1, ho, hr⟩ | ⟨l, h1, ho, hh, hr⟩ | ⟨l, h1, ho, hh, ht, hr⟩ | ⟨l, h1, ho, hh, ht, hc, hr⟩ | ⟨l, z, h1, ho, hh, ht, hc, hz, hr⟩
 ·refine (Q5) ?_
  refine aj (OO p c B R hR hl hB hcap e h1) V.VY  rfl (.cons aw .nil) rfl ?_
  rintro _ _ ⟨rfl, rfl⟩
  refine (Qp) ?_
  refine oV (cQ (cL rfl rfl) (aa.NF h1))<|(Q3)<|(vJ)<|(Q7)<|(X6)<|(Q3) ?_
  subst hr
  exact af (dP V.fZ rfl dm rfl rfl) ⟨none, 0, 0, rfl, rfl, Nat.le_refl _, rfl⟩ ((cX (A := Row (aD 62 .u16) none 0 0 []) (fun w0 => Row.nil _ _ _)).trans (sub (aO .nil) bp))
 ·refine (Q5)<|(Ex) ?_
  rintro _ _ ⟨q13, c13, es, rfl, hel, hco, rfl, rfl⟩
  refine (Qp)<|(oP)<|(Qd) ?_
  refine gr (fun w hi => eS hi (show Row CK q13 es.length c13 es ∈ _ by exact aB)) (fun hcq => ?_)
  refine (Q9)<|(Fb) ?_
  rintro _ _ ⟨rfl, rfl⟩
  rw [aa.k7 ho]
  refine (Q1) ?_
  refine oV (cQ (cL rfl rfl) (by decide))<|(Q3)<|(vJ)<|(Q7)<|(RU)<|(Q3) ?_
  subst hr
  exact af (dP V.fZ rfl iH rfl rfl) ⟨none, 0, 0, rfl, rfl, Nat.le_refl _, rfl⟩ ((cX (A := Row (aD 62 .u16) none 0 0 []) (fun w0 => Row.nil _ _ _)).trans (sub (aq (.cons bg .nil)) mw))
 ·refine (Q5)<|(Ex) ?_
  rintro _ _ ⟨q13, c13, es, rfl, hel, hco, rfl, rfl⟩
  refine (Qp)<|(oP)<|(Qd) ?_
  refine gr (fun w hi => eS hi (show Row CK q13 es.length c13 es ∈ _ by exact aB)) (fun hcq => ?_)
  refine (Q9)<|(Fb) ?_
  rintro _ _ ⟨rfl, rfl⟩
  rw [aa.pJ ho]
  refine (Q1)<|(oP)<|(Q1) ?_
  have h3 : 0 < es.length := by have := aa.wz ho; rw [List.length_map] at this; omega
  refine (II)<|(pD)<|(HT)<|(H2) ?_
  rintro _ _ ⟨rfl, rfl⟩
  refine (Qi) ?_
  refine cS V.vi rfl ?_
  intro b7
  refine (vg)<|(Qd) ?_
  refine oV (cQ (cL rfl rfl) (by rw [← pK]; exact hh))<|(Q3)<|(vJ)<|(Q7)<|(SH)<|(Q3) ?_
  rw [← pK]
  subst hr
  exact af (dP V.fZ rfl jR rfl rfl) ⟨none, 0, 0, rfl, rfl, Nat.le_refl _, rfl⟩ ((cX (A := Row (aD 62 .u16) none 0 0 []) (fun w0 => Row.nil _ _ _)).trans (sub (aq (.cons c9 .nil)) lA))
 ·refine (Q5)<|(Ex) ?_
  rintro _ _ ⟨q13, c13, es, rfl, hel, hco, rfl, rfl⟩
  refine (Qp)<|(oP)<|(Qd) ?_
  refine gr (fun w hi => eS hi (show Row CK q13 es.length c13 es ∈ _ by exact aB)) (fun hcq => ?_)
  refine (Q9)<|(Fb) ?_
  rintro _ _ ⟨rfl, rfl⟩
  rw [aa.pJ ho]
  refine (Q1)<|(oP)<|(Q1) ?_
  have h3 : 0 < es.length := by have := aa.wz ho; rw [List.length_map] at this; omega
  obtain ⟨h, hhd⟩ : ∃ h, h = aa.aL (aa.dr (es.map Ce.ch)) := ⟨_, rfl⟩
  rw [← hhd] at ht
  obtain ⟨hde, hsz⟩ := aa.sA hh
  rw [← hhd] at hde hsz
  have hd := aa.gq hde
  have hcl := aa.va h1
  refine (II)<|(pD)<|(HT)<|(H2) ?_
  rintro _ _ ⟨rfl, rfl⟩
  rw [← pK, hh, aa.wB hh, ← hhd]
  refine (Qi) ?_
  refine cS V.vi rfl ?_
  intro b7
  refine (vg)<|(Qd)<|(oP)<|(Qk)<|(MG) ?_
  rintro _ _ ⟨s, hs, rfl, rfl⟩
  refine (Q8) ?_
  refine cS V.H6 rfl ?_
  intro b8
  refine (Jp)<|(Q1)<|(Rf) ?_
  refine oV (bd V.gG rfl)<|(vg)<|(Q8) ?_
  obtain ⟨eP, eT, eD, ep, et⟩ := uO hs ho
  have hso := hs
  obtain ⟨_, _, _, _, _, hcp, hct, hrP, hrT⟩ := hso
  have hBP : ag.an s.P := eP ▸ aa.kF (aa.jc hB h1) _
  have hBT : ag.an s.T := eT ▸ aa.kF (aa.jc hB h1) _
  have hBD : ag.an s.D := eD ▸ aa.sf (aa.jc hB h1)
  have hlP : s.P.length < 500000000 := by rw [eP]; exact Nat.lt_of_le_of_lt aa.lK (by omega)
  have hlT : s.T.length < 500000000 := by rw [eT]; exact Nat.lt_of_le_of_lt aa.lK (by omega)
  have hlD : s.D.length < 500000000 := by rw [eD]; exact Nat.lt_of_le_of_lt (aa.ns _) (by omega)
  have hn0 : s.hp = false → s.P = [] := fun q => by rw [eP]; exact aa.nP (ep.symm.trans q)
  have hn1 : s.ht = false → s.T = [] := fun q => by rw [eT]; exact aa.nP (et.symm.trans q)
  rw [← eP, ← ep] at ht
  refine (Q9) ?_
  refine aj (qL h hd b8 s.pp s.P s.cp s.pt s.T s.ct s.pd s.D.length s.cd none 0 0 hlP s.hp false (decide_eq_false ht).symm) V.IU  rfl (aq .nil) rfl ?_
  rintro _ _ ⟨rfl, rfl⟩
  refine (Qp)<|(vJ) ?_
  refine cy (bb V.fZ rfl rfl (us := [_, _, _]) rfl rfl (by exact VL) (by exact Nat.le_of_ble_eq_true rfl) rfl)<|(Q3) ?_
  subst hr
  exact af (dP V.fZ rfl Np rfl rfl) ⟨none, 0, 0, rfl, rfl, Nat.le_refl _, rfl⟩ ((cX (A := Row (aD 62 .u16) none 0 0 []) (fun w0 => Row.nil _ _ _)).trans (sub (aq (.cons jM .nil)) Wg))
 ·refine (Q5)<|(Ex) ?_
  rintro _ _ ⟨q13, c13, es, rfl, hel, hco, rfl, rfl⟩
  refine (Qp)<|(oP)<|(Qd) ?_
  refine gr (fun w hi => eS hi (show Row CK q13 es.length c13 es ∈ _ by exact aB)) (fun hcq => ?_)
  refine (Q9)<|(Fb) ?_
  rintro _ _ ⟨rfl, rfl⟩
  rw [aa.pJ ho]
  refine (Q1)<|(oP)<|(Q1) ?_
  have h3 : 0 < es.length := by have := aa.wz ho; rw [List.length_map] at this; omega
  obtain ⟨h, hhd⟩ : ∃ h, h = aa.aL (aa.dr (es.map Ce.ch)) := ⟨_, rfl⟩
  rw [← hhd] at ht
  obtain ⟨hde, hsz⟩ := aa.sA hh
  rw [← hhd] at hde hsz
  have hd := aa.gq hde
  have hcl := aa.va h1
  refine (II)<|(pD)<|(HT)<|(H2) ?_
  rintro _ _ ⟨rfl, rfl⟩
  rw [← pK, hh, aa.wB hh, ← hhd]
  refine (Qi) ?_
  refine cS V.vi rfl ?_
  intro b7
  refine (vg)<|(Qd)<|(oP)<|(Qk)<|(MG) ?_
  rintro _ _ ⟨s, hs, rfl, rfl⟩
  refine (Q8) ?_
  refine cS V.H6 rfl ?_
  intro b8
  refine (Jp)<|(Q1)<|(Rf) ?_
  refine oV (bd V.gG rfl)<|(vg)<|(Q8) ?_
  obtain ⟨eP, eT, eD, ep, et⟩ := uO hs ho
  have hso := hs
  obtain ⟨_, _, _, _, _, hcp, hct, hrP, hrT⟩ := hso
  have hBP : ag.an s.P := eP ▸ aa.kF (aa.jc hB h1) _
  have hBT : ag.an s.T := eT ▸ aa.kF (aa.jc hB h1) _
  have hBD : ag.an s.D := eD ▸ aa.sf (aa.jc hB h1)
  have hlP : s.P.length < 500000000 := by rw [eP]; exact Nat.lt_of_le_of_lt aa.lK (by omega)
  have hlT : s.T.length < 500000000 := by rw [eT]; exact Nat.lt_of_le_of_lt aa.lK (by omega)
  have hlD : s.D.length < 500000000 := by rw [eD]; exact Nat.lt_of_le_of_lt (aa.ns _) (by omega)
  have hn0 : s.hp = false → s.P = [] := fun q => by rw [eP]; exact aa.nP (ep.symm.trans q)
  have hn1 : s.ht = false → s.T = [] := fun q => by rw [eT]; exact aa.nP (et.symm.trans q)
  rw [← eP, ← ep] at ht
  rw [← hhd, ← eP, ← eT, ← et] at hc
  refine rC TT 2 rfl ?_
  refine aj (qL h hd b8 s.pp s.P s.cp s.pt s.T s.ct s.pd s.D.length s.cd none 0 0 hlP s.hp true (decide_eq_true ht).symm) V.IU  rfl (aq .nil) rfl ?_
  rintro _ _ ⟨rfl, rfl⟩
  refine (Qj) ?_
  refine aj (xt h hd b8 s.pp s.P s.cp s.pt s.T s.ct s.pd s.D.length s.cd hlP hlT hBT (DK es) hrT s.ht hn1 false (decide_eq_false hc).symm) V.Wa  rfl (aq (.cons bg .nil)) rfl ?_
  rintro _ _ ⟨pk, nk, ck, K, hK, hKn, rfl, rfl⟩
  refine (Qd)<|(vJ) ?_
  refine cy (bb V.fZ rfl rfl (us := [_, _, _]) rfl rfl (by exact Ws) (by exact Nat.le_of_ble_eq_true rfl) rfl)<|(Q3) ?_
  subst hr
  exact af (dP V.fZ rfl DL rfl rfl) ⟨none, 0, 0, rfl, rfl, Nat.le_refl _, rfl⟩ ((cX (A := Row (aD 62 .u16) none 0 0 []) (fun w0 => Row.nil _ _ _)).trans (sub (aq (.cons oQ .nil)) Ib))
 ·refine (Q5)<|(Ex) ?_
  rintro _ _ ⟨q13, c13, es, rfl, hel, hco, rfl, rfl⟩
  refine (Qp)<|(oP)<|(Qd) ?_
  refine gr (fun w hi => eS hi (show Row CK q13 es.length c13 es ∈ _ by exact aB)) (fun hcq => ?_)
  refine (Q9)<|(Fb) ?_
  rintro _ _ ⟨rfl, rfl⟩
  rw [aa.pJ ho]
  refine (Q1)<|(oP)<|(Q1) ?_
  have h3 : 0 < es.length := by have := aa.wz ho; rw [List.length_map] at this; omega
  obtain ⟨h, hhd⟩ : ∃ h, h = aa.aL (aa.dr (es.map Ce.ch)) := ⟨_, rfl⟩
  rw [← hhd] at ht
  obtain ⟨hde, hsz⟩ := aa.sA hh
  rw [← hhd] at hde hsz
  have hd := aa.gq hde
  have hcl := aa.va h1
  refine (II)<|(pD)<|(HT)<|(H2) ?_
  rintro _ _ ⟨rfl, rfl⟩
  rw [← pK, hh, aa.wB hh, ← hhd]
  refine (Qi) ?_
  refine cS V.vi rfl ?_
  intro b7
  refine (vg)<|(Qd)<|(oP)<|(Qk)<|(MG) ?_
  rintro _ _ ⟨s, hs, rfl, rfl⟩
  refine (Q8) ?_
  refine cS V.H6 rfl ?_
  intro b8
  refine (Jp)<|(Q1)<|(Rf) ?_
  refine oV (bd V.gG rfl)<|(vg)<|(Q8) ?_
  obtain ⟨eP, eT, eD, ep, et⟩ := uO hs ho
  have hso := hs
  obtain ⟨_, _, _, _, _, hcp, hct, hrP, hrT⟩ := hso
  have hBP : ag.an s.P := eP ▸ aa.kF (aa.jc hB h1) _
  have hBT : ag.an s.T := eT ▸ aa.kF (aa.jc hB h1) _
  have hBD : ag.an s.D := eD ▸ aa.sf (aa.jc hB h1)
  have hlP : s.P.length < 500000000 := by rw [eP]; exact Nat.lt_of_le_of_lt aa.lK (by omega)
  have hlT : s.T.length < 500000000 := by rw [eT]; exact Nat.lt_of_le_of_lt aa.lK (by omega)
  have hlD : s.D.length < 500000000 := by rw [eD]; exact Nat.lt_of_le_of_lt (aa.ns _) (by omega)
  have hn0 : s.hp = false → s.P = [] := fun q => by rw [eP]; exact aa.nP (ep.symm.trans q)
  have hn1 : s.ht = false → s.T = [] := fun q => by rw [eT]; exact aa.nP (et.symm.trans q)
  rw [← eP, ← ep] at ht
  rw [← hhd, ← eP, ← eT, ← et] at hc
  refine rC TT 2 rfl ?_
  refine aj (qL h hd b8 s.pp s.P s.cp s.pt s.T s.ct s.pd s.D.length s.cd none 0 0 hlP s.hp true (decide_eq_true ht).symm) V.IU  rfl (aq .nil) rfl ?_
  rintro _ _ ⟨rfl, rfl⟩
  refine (Qj) ?_
  refine aj (xt h hd b8 s.pp s.P s.cp s.pt s.T s.ct s.pd s.D.length s.cd hlP hlT hBT (DK es) hrT s.ht hn1 true (decide_eq_true hc).symm) V.Wa  rfl (aq (.cons bg .nil)) rfl ?_
  rintro _ _ ⟨pk, nk, ck, K, hK, rfl, rfl, rfl⟩
  obtain rfl := hK rfl
  refine (Qk) ?_
  refine gr (fun w hi => eS hi (show Row U5 s.pd s.D.length s.cd s.D ∈ _ by exact iH)) (fun hcD => ?_)
  refine (Qo) ?_
  refine aj (Rp h b8 s.pp s.P s.cp s.pt s.T s.ct s.pd s.cd pk ck (DK es) hrP hrT hcp hBP hBT hlP hlT (Row (aD 3 .i64) pk (aa.aQ h s.T).length ck (aa.aQ h s.T)) (fun _ _ hh => hh.rd) (aa.L6 hde hBP hBT hlP hlT ht hc hn0 hn1) hsz s.D hBD hlD hcD (Row U5 s.pd s.D.length s.cd s.D) (fun _ _ hh => hh.rd) z (by rw [eD, hhd]; exact hz)) V.YW  rfl (aO (.cons aw (.cons cW .nil))) rfl ?_
  rintro _ _ ⟨q55, n55, c55, rfl, hn55, hc55, rfl⟩
  refine (Q6)<|(SH)<|(Q8) ?_
  rw [aa.Pj hhd eP eT] at hr
  subst hr
  exact af (dP V.fZ rfl jR rfl rfl) ⟨q55, n55, c55, rfl, hn55, hc55, rfl⟩ (sub (aq (.cons bg .nil)) mw)
end Go.Proofs.YtmaiakpjgomnpaaGreat
namespace Go.Proofs.YtmaiakpjgomnpaaGreat
open Go.Sl
theorem V.Zj : ay Tryz.prog 29 = true := by kernel_rfl
theorem V.YO : ay Tryz.prog 35 = true := by kernel_rfl
end Go.Proofs.YtmaiakpjgomnpaaGreat
namespace Go.Proofs.YtmaiakpjgomnpaaGreat
open Go.Sl 
attribute [local irreducible] ag.an aa.aT aa.bK aa.deep aa.parts HW aa.aQ aa.gg aa.eu aa.fq aa.eV aa.dO aa.jq aa.fS aa.fa aa.de aa.eo aa.kY aa.want aa.aN aa.kM aa.mU aa.m0 aa.iF aH.mv aa.ba aa.aS aa.aY aa.a8 aa.bQ aa.eF aa.iy aa.iM aa.l9 aa.bU aa.cD aa.cut aa.dr aa.oU aa.bD aa.dZ
theorem Lq (w h : Int) (hs : aa.aT w h = 0) : az Tryz.prog 35 [.int .i64 w, .int .i64 h] [] (aG fun v G => ∃ b : Nat, v = .tuple #[.agg #[.int .i64 w, .int .i64 h, .slice (some ⟨b, 0, none⟩) ((4 * w * h).toNat) ((4 * w * h).toNat)], .int .i64 0] ∧ G = [Row (aD 62 .u16) (some ⟨b, 0, none⟩) ((4 * w * h).toNat) ((4 * w * h).toNat) (List.replicate ((4 * w * h).toNat) 0)]) := by
  refine (SZ w h).mono ?_
  rintro e2 G ⟨v, rfl, (⟨h1, _⟩ | ⟨_, b, rfl, rfl⟩)⟩
  · exact absurd hs h1
  · exact ⟨_, rfl, b, rfl, rfl⟩
end Go.Proofs.YtmaiakpjgomnpaaGreat
namespace Go.Proofs.YtmaiakpjgomnpaaGreat
open Go.Sl
theorem V.Yu : ay Tryz.prog 62 = true := by kernel_rfl
end Go.Proofs.YtmaiakpjgomnpaaGreat
namespace Go.Proofs.YtmaiakpjgomnpaaGreat
open Go.Sl 
attribute [local irreducible] ag.an aJ.ie aJ.gJ ab.eQ ab.eZ aH.ff aH.jS aa.cP aa.aX aa.e9 aa.gn aa.ba aa.a8 aa.bQ aa.ee aa.cZ aa.bX aa.eM aa.two aa.hB aa.iq aa.ku aa.jJ aa.parts
set_option maxHeartbeats 4000000 in
theorem F6 (p : Option Addr) (c : Nat) (B : List Int) (R : ad) (hR : ∀ w0 h, R w0 h → aF U5 p B.length B w0 h) (hl : B.length ≤ 4194304) (hcap : B.length ≤ c) : az Tryz.prog 62 [.slice p B.length c] [R] (aG fun v G => ∃ q cq, v = .slice q (aJ.gJ B).length cq ∧ G = [Row U5 q (aJ.gJ B).length cq (aJ.gJ B), R]) := by
 refine au [(0, _)] Tryz.func62 rfl Tryz.ntmps62 rfl rfl ?_
 intro w0 F
 refine rT TT 12 rfl<|(ru) ?_
 refine Bh (fun (f : Nat) (pz : Option Addr) (cz : Nat) (Z : List Int) (po : Option Addr) (co : Nat) (O : List Int) => [(0, .slice pz Z.length cz), (3, .slice po O.length co)]) (fun (f : Nat) (pz : Option Addr) (cz : Nat) (Z : List Int) (po : Option Addr) (co : Nat) (O : List Int) => Row U5 po O.length co O :: R :: F) (fun (f : Nat) (pz : Option Addr) (cz : Nat) (Z : List Int) (po : Option Addr) (co : Nat) (O : List Int) => O ++ ab.eQ (aJ.ie f Z) = aJ.gJ B ∧ Z.length ≤ 65535 * (f + 1) ∧ (∀ w0 h, R w0 h → aF U5 pz Z.length Z w0 h) ∧ Z.length ≤ cz ∧ O.length + Z.length ≤ 2 * B.length + 5 * (65 - f) ∧ f ≤ 64) (fun (f : Nat) (pz : Option Addr) (cz : Nat) (Z : List Int) (po : Option Addr) (co : Nat) (O : List Int) => f) (i7 (64) (p) (c) (B) (none) (0) ([]) ?_ (gI ln) (sub (aO .nil) ak)) ?_
 ·exact ⟨aJ.M5 B, by omega, hR, hcap, by simp; omega, by omega⟩
 intro f pz cz Z po co O
 rintro ⟨hO, hZf, hZR, hZc, hOl, hf⟩
 refine rL TT 1 rfl ?_
 rcases (Nat.lt_or_ge 65535 Z.length) with hZ | hZ
 ·refine (Q4) ?_
  refine oV (cY (v := .int .i64 65535) (H9 rfl rfl) (by rw [if_pos (by omega)]))<|(QK)<|(QB)<|(Qg) ?_
  refine oV (df V.u3 Tryz.underlying5 rfl (ag.fm (65535 : Int)))<|(Q7) ?_
  refine oV (dX (r := (65535 : Int) / 256) rfl rfl (by omega) (ag.lX (k := 8) (by decide) rfl))<|(nu)<|(Q7)<|(VQ) ?_
  refine oV (df V.u3 Tryz.underlying5 rfl ((ag.fm _).trans (show (-(65535 : Int) - 1) % 256 = 255 - (65535 : Int) % 256 from by omega)))<|(Q7)<|(VQ) ?_
  refine oV (dX (r := (-(65535 : Int) - 1) / 256) rfl rfl (by omega) (ag.lX (k := 8) (by decide) rfl))<|oV (df V.u3 Tryz.underlying5 rfl ((ag.fm _).trans (show ((-(65535 : Int) - 1) / 256) % 256 = 255 - (65535 : Int) / 256 from by omega)))<|cH (U5) [0, (65535 : Int) % 256, (65535 : Int) / 256, 255 - (65535 : Int) % 256, 255 - (65535 : Int) / 256] V.bN V.z5 rfl rfl rfl rfl rfl rfl ?_
  intro I7
  refine (FE) ?_
  intro p28 c28
  refine (Q8) ?_
  have hPR : ∀ w0 h, R w0 h → aF U5 pz 65535 (Z.take 65535) w0 h := kK (cap := 0) hZR 65535 (by omega)
  refine (Q4) ?_
  refine oV (iI 65535 cz V.bN rfl ⟨_, rfl⟩ rfl (by omega) (by omega))<|eh (c := (U5)) V.bN V.z5 rfl rfl rfl rfl cW (by exact bM hPR dW) (by omega) rfl ?_
  intro p33 c33
  refine (Qd) ?_
  refine oV (eb 65535 Z.length cz V.bN rfl ⟨_, rfl⟩ ⟨rfl, rfl⟩ rfl (by omega) (by omega) (by omega))<|(Q1)<|(qA)<|(Q3) ?_
  obtain ⟨f, rfl⟩ : ∃ f2, f = f2 + 1 := ⟨f - 1, by omega⟩
  have hnx := aJ.GK hO hZ
  have hle : (O ++ [0, (65535 : Int) % 256, (65535 : Int) / 256, 255 - (65535 : Int) % 256, 255 - (65535 : Int) / 256] ++ Z.take 65535).length = O.length + 5 + 65535 := by simp; omega
  have hdl : (Z.drop 65535).length = Z.length - 65535 := List.length_drop
  rw [← hdl, ← hle]
  exact j7 f _ _ (Z.drop 65535) _ _ _ ⟨⟨hnx, by omega, by rw [hdl]; exact fU hZR rfl 65535 cz (by omega) hZc, by omega, by omega, by omega⟩, by omega⟩ (.cons rfl (.cons rfl (.nil _))) (sub (.cons cW (.cons aw .nil)) bp)
 ·refine (Q4) ?_
  refine oV (cY (v := .int .i64 (Z.length : Int)) (H9 rfl rfl) (by rw [if_neg (by omega)]))<|(QK)<|(Qz)<|(QG) ?_
  refine oV (df V.u3 Tryz.underlying5 rfl (ag.fm (Z.length : Int)))<|(Q7) ?_
  refine oV (dX (r := (Z.length : Int) / 256) rfl rfl (by omega) (ag.lX (k := 8) (by decide) rfl))<|(nu)<|(Q7)<|(VC) ?_
  refine oV (df V.u3 Tryz.underlying5 rfl ((ag.fm _).trans (show (-(Z.length : Int) - 1) % 256 = 255 - (Z.length : Int) % 256 from by omega)))<|(Q7)<|(VC) ?_
  refine oV (dX (r := (-(Z.length : Int) - 1) / 256) rfl rfl (by omega) (ag.lX (k := 8) (by decide) rfl))<|oV (df V.u3 Tryz.underlying5 rfl ((ag.fm _).trans (show ((-(Z.length : Int) - 1) / 256) % 256 = 255 - (Z.length : Int) / 256 from by omega)))<|cH (U5) [1, (Z.length : Int) % 256, (Z.length : Int) / 256, 255 - (Z.length : Int) % 256, 255 - (Z.length : Int) / 256] V.bN V.z5 rfl rfl rfl rfl rfl rfl ?_
  intro I7
  refine (FE) ?_
  intro p28 c28
  refine (Qk) ?_
  refine oV (iI Z.length cz V.bN rfl ⟨_, rfl⟩ rfl (by omega) (by omega))<|eh (c := (U5)) V.bN V.z5 rfl rfl rfl rfl cW (by exact bM hZR dW) (by omega) rfl ?_
  intro p33 c33
  refine (Qd) ?_
  refine oV (eb Z.length Z.length cz V.bN rfl ⟨_, rfl⟩ ⟨rfl, rfl⟩ rfl (by omega) (by omega) (by omega))<|(Q1)<|(xR)<|(QI) ?_
  have hnx := aJ.GW hO (by omega)
  have hle : (O ++ [1, (Z.length : Int) % 256, (Z.length : Int) / 256, 255 - (Z.length : Int) % 256, 255 - (Z.length : Int) / 256] ++ Z).length = O.length + 5 + Z.length := by simp; omega
  rw [hnx] at hle
  rw [← hle, hnx]
  exact af (av rfl) ⟨_, _, rfl, rfl⟩ (sub (aq (.cons aw .nil)) bp)
set_option maxHeartbeats 2000000 in
theorem zZ (p : Option Addr) (c : Nat) (B : List Int) (R : ad) (hR : ∀ w0 h, R w0 h → aF U5 p B.length B w0 h) (hl : B.length ≤ 4194304) (hB : ag.an B) (hcap : B.length ≤ c) : az Tryz.prog 27 [.slice p B.length c] [R] (aG fun v G => ∃ q cq, v = .slice q (aa.cP B).length cq ∧ G = [Row U5 q (aa.cP B).length cq (aa.cP B), R]) := by
 refine au [(0, _)] Tryz.func27 rfl Tryz.ntmps27 rfl rfl ?_
 intro w0 F
 have hsl := aJ.uR hl
 have ha := aH.yn B
 refine rT TT 7 rfl<|cH (U5) [120, 1] V.bN V.z5 rfl rfl rfl rfl rfl rfl ?_
 intro b5
 refine (Q7) ?_
 refine aj (F6 p c B R hR hl hcap) V.Yu  rfl (.cons aw .nil) rfl ?_
 rintro _ _ ⟨qz, cz, rfl, rfl⟩
 refine (Pl) ?_
 intro p8 c8
 refine (Q1) ?_
 refine aj (RF p c B R hR (by omega) hB) V.Ya  rfl (.cons bg .nil) rfl ?_
 rintro _ _ ⟨rfl, rfl⟩
 refine (Qd) ?_
 refine oV (dX (r := (aH.ff B) / 16777216) rfl rfl (by decide) (aa.lI (n := 24) rfl (by decide) rfl))<|oV (df V.Av Tryz.underlying5 rfl ((aa.fm _).trans (by omega : (aH.ff B) / 16777216 % 256 = (aH.ff B) / 16777216)))<|(Q7) ?_
 refine oV (dX (r := (aH.ff B) / 65536) rfl rfl (by decide) (aa.lI (n := 16) rfl (by decide) rfl))<|(vv)<|(Q7) ?_
 refine oV (dX (r := (aH.ff B) / 256) rfl rfl (by decide) (aa.lI (n := 8) rfl (by decide) rfl))<|(vv)<|(Q7)<|(vv) ?_
 refine cH (U5) [(aH.ff B) / 16777216, (aH.ff B) / 65536 % 256, (aH.ff B) / 256 % 256, (aH.ff B) % 256] V.bN V.z5 rfl rfl rfl rfl rfl rfl ?_
 intro MN
 refine (Pl) ?_
 intro p24 c24
 refine (Q8) ?_
 have hle : 2 + (aJ.gJ B).length + 4 = (aa.cP B).length := by rw [aa.nL hl]; omega
 rw [hle, show [120, 1] ++ aJ.gJ B ++ [(aH.ff B) / 16777216, (aH.ff B) / 65536 % 256, (aH.ff B) / 256 % 256, (aH.ff B) % 256] = aa.cP B from by unfold aa.cP aH.jS; rfl]
 exact af (av rfl) ⟨_, _, rfl, rfl⟩ (sub (aq (.cons aw .nil)) fP)
set_option maxHeartbeats 8000000 in
theorem Eg (p : Option Addr) (c : Nat) (es : List Ce) (R : ad) (hR : ∀ w0 h, R w0 h → aF aR p es.length es w0 h) (hel : es.length ≤ 262144) (hok : ∀ x ∈ es, aa.jJ x.ch) (hj : (aa.aX (es.map Ce.ch)).length ≤ 262144) : az Tryz.prog 28 [.slice p es.length c] [R, DK es] (aG fun v G => ∃ q cq, v = .tuple #[.slice q (aa.aX (es.map Ce.ch)).length cq, .int .i64 0] ∧ G = [Row U5 q (aa.aX (es.map Ce.ch)).length cq (aa.aX (es.map Ce.ch)), R, DK es]) := by
 refine au [(0, _)] Tryz.func28 rfl Tryz.ntmps28 rfl rfl ?_
 intro w0 F
 refine (QH) ?_
 refine aj (Nj) V.Zd  rfl .nil rfl ?_
 rintro _ _ ⟨rfl, rfl⟩
 refine wL Tryz.underlying9 Tryz.underlying22 Tryz.underlying5 rfl (aa.bu aa.ss) rfl ?_
 intro b10 c10
 refine (QI) ?_
 rw [show aa.ee = aa.aX ((es.map Ce.ch).take 0) from (aa.Oq _).symm]
 refine fN (fun (i : Nat) (po : Option Addr) (co : Nat) => [(0, .slice p es.length c), (4, .slice po (aa.aX ((es.map Ce.ch).take i)).length co), (5, .bool false), (6, .int .i64 (i : Int))]) (fun (i : Nat) (po : Option Addr) (co : Nat) => Row U5 po (aa.aX ((es.map Ce.ch).take i)).length co (aa.aX ((es.map Ce.ch).take i)) :: R :: DK es :: F) (fun (i : Nat) (po : Option Addr) (co : Nat) => i ≤ es.length) (fun (i : Nat) (po : Option Addr) (co : Nat) => es.length - i) (i3 (0) (_) (_) ?_ (eG ln) (sub (fp .nil) ak)) ?_
 ·exact Nat.zero_le _
 intro i po co
 rintro hi
 refine rL TT 9 rfl ?_
 refine aC rfl (fun h14 => ?_) (fun h14 => ?_)
 ·refine (Qc) ?_
  have hcx := pO (es := es) (i := i) (by omega)
  have hxm := ml (i := i) (fun x => x ∈ es) (fun x hx => hx) (by omega)
  have hxo := hok _ hxm
  unfold aa.jJ at hxo
  have hxn : aa.cZ (aR.g es (i : Int)).k := hxo.1
  have hxk : ag.an (aR.g es (i : Int)).k := aa.rk hxn
  have hxl := aa.AB hxn
  have hxB : ag.an (aR.g es (i : Int)).d := hxo.2.1
  have hjs := aa.NM hcx
  have hjl := aa.join_le (es.map Ce.ch) (i + 1)
  have hjl2 : (aa.aX ((es.map Ce.ch).take (i + 1))).length = (aa.aX ((es.map Ce.ch).take i)).length + (aa.e9 (aR.g es (i : Int)).ch).length := by rw [hjs, List.length_append]
  have hcb : (aa.e9 (aR.g es (i : Int)).ch).length = 4 + (aR.g es (i : Int)).k.length + (aR.g es (i : Int)).d.length + 4 := aa.F2 _
  refine (Q5) ?_
  refine oV (xI V.om (by exact bM hR dm))<|oV (bd V.sO rfl)<|oV (iD (c := (aR)) 0 V.s9 rfl (by exact bM hR dm) (by omega) (by omega) rfl rfl)<|aj (C6 (aR.g es (i : Int)).k hxk (by omega) true (decide_eq_true hxn).symm) V.Y6  rfl .nil rfl ?_
  rintro _ _ ⟨rfl, rfl⟩
  refine (Qg) ?_
  refine oV (xI V.om (by exact bM hR dm)) ?_
  refine oV (bd V.wu rfl) ?_
  refine oV (iD (c := (aR)) 1 V.jV rfl (by exact bM hR dm) (by omega) (by omega) rfl rfl) ?_
  refine (Qn) ?_
  refine (Q0) ?_
  refine (Qr) ?_
  refine (Q8) ?_
  refine (Q0) ?_
  refine (Qr) ?_
  refine rO TT 17 rfl ?_
  refine oV (dX (r := ((aR.g es (i : Int)).d.length : Int) / 16777216) rfl rfl (by decide) (ag.lX (k := 24) (by decide) rfl)) ?_
  refine (vx) ?_
  refine (Q7) ?_
  refine oV (dX (r := ((aR.g es (i : Int)).d.length : Int) / 65536) rfl rfl (by decide) (ag.lX (k := 16) (by decide) rfl)) ?_
  refine (vx) ?_
  refine (Q7) ?_
  refine oV (dX (r := ((aR.g es (i : Int)).d.length : Int) / 256) rfl rfl (by decide) (ag.lX (k := 8) (by decide) rfl)) ?_
  refine (vx) ?_
  refine (Q7) ?_
  refine (vx) ?_
  refine cH (U5) [((aR.g es (i : Int)).d.length : Int) / 16777216 % 256, ((aR.g es (i : Int)).d.length : Int) / 65536 % 256, ((aR.g es (i : Int)).d.length : Int) / 256 % 256, ((aR.g es (i : Int)).d.length : Int) % 256] V.bN V.z5 rfl rfl rfl rfl rfl rfl ?_
  intro b53
  refine (FE) ?_
  intro p54 c54
  refine (Q8) ?_
  refine jD [pz 0 [] [4], pz 0 [] [0], pz 0 [] [6], pz 6 [1, 2] [], pz 14 [3] [], pz 30 [4] [], pz 63 [0, 5] [], pz 0 [] [0], pz 0 [] [6], pz 384 [7, 8] [], pz 896 [9] [], pz 1920 [10] [], pz 4095 [6, 11] [], pz 8191 [12] []] [⟨fun y => Row U5 p54 ((aa.aX ((es.map Ce.ch).take i)).length + 4) c54 ((aa.aX ((es.map Ce.ch).take i)) ++ [((aR.g es (i : Int)).d.length : Int) / 16777216 % 256, ((aR.g es (i : Int)).d.length : Int) / 65536 % 256, ((aR.g es (i : Int)).d.length : Int) / 256 % 256, ((aR.g es (i : Int)).d.length : Int) % 256]), none, some 6, []⟩, ⟨fun y => Row U5 (some ⟨b53, 0, none⟩) 4 4 [((aR.g es (i : Int)).d.length : Int) / 16777216 % 256, ((aR.g es (i : Int)).d.length : Int) / 65536 % 256, ((aR.g es (i : Int)).d.length : Int) / 256 % 256, ((aR.g es (i : Int)).d.length : Int) % 256], none, none, []⟩, ⟨fun y => R, none, none, [3, 5, 9, 11]⟩, ⟨fun y => DK es, none, none, [12]⟩, ⟨fun y => Row (U5) (ed (y 6)) (((aa.aX ((es.map Ce.ch).take i)).length + 4) + ((aR.g es (i : Int)).k).length) (fx (y 6)) (((aa.aX ((es.map Ce.ch).take i)) ++ [((aR.g es (i : Int)).d.length : Int) / 16777216 % 256, ((aR.g es (i : Int)).d.length : Int) / 65536 % 256, ((aR.g es (i : Int)).d.length : Int) / 256 % 256, ((aR.g es (i : Int)).d.length : Int) % 256]) ++ ((aR.g es (i : Int)).k)), some 6, some 12, []⟩, ⟨fun y => Row (U5) (ed (y 12)) ((((aa.aX ((es.map Ce.ch).take i)).length + 4) + ((aR.g es (i : Int)).k).length) + (aR.g es (i : Int)).d.length) (fx (y 12)) ((((aa.aX ((es.map Ce.ch).take i)) ++ [((aR.g es (i : Int)).d.length : Int) / 16777216 % 256, ((aR.g es (i : Int)).d.length : Int) / 65536 % 256, ((aR.g es (i : Int)).d.length : Int) / 256 % 256, ((aR.g es (i : Int)).d.length : Int) % 256]) ++ ((aR.g es (i : Int)).k)) ++ (aR.g es (i : Int)).d), some 12, none, []⟩] F V.mixed (by kernel_rfl) rfl (fun _ => .refl _) (aP _ (aP _ (aP _ (aP _ (cT _ rfl (by intro y y2 h; simp only [h 6 (.inl rfl)]) (cT _ rfl (by intro y y2 h; simp only [h 12 (.inl rfl)]) ft)))))) ?_
  iterate 3 refine nM ?_
  refine (Pg) ?_
  refine nG V.sO ?_
  refine (Vh) ?_
  refine fc (fun y v => .slice (ed v) (((aa.aX ((es.map Ce.ch).take i)).length + 4) + ((aR.g es (i : Int)).k).length) (fx v)) (fun y v => True) _ _ (fun y v => [Row (U5) (ed v) (((aa.aX ((es.map Ce.ch).take i)).length + 4) + ((aR.g es (i : Int)).k).length) (fx v) (((aa.aX ((es.map Ce.ch).take i)) ++ [((aR.g es (i : Int)).d.length : Int) / 16777216 % 256, ((aR.g es (i : Int)).d.length : Int) / 65536 % 256, ((aR.g es (i : Int)).d.length : Int) / 256 % 256, ((aR.g es (i : Int)).d.length : Int) % 256]) ++ ((aR.g es (i : Int)).k))]) _ (fun y => rfl) (fun y => rfl) (fun y => rfl) (fun y => rfl) (fun y FF hA => qF (BK (T := 5) V.bN Tryz.underlying9 V.z5 rfl rfl rfl (aa.bu hxk) cW (by omega)) (.refl _)) (by intros; rfl) (by intros; rfl) (by intros; rfl) (by intro y y2 h; simp only [h 6 (.inl rfl)]) (by intro y y2 h; rfl) ?_
  iterate 2 refine nM ?_
  refine (Pg) ?_
  refine nG V.wu ?_
  refine (YD) ?_
  refine fc (fun y v => .slice (ed v) ((((aa.aX ((es.map Ce.ch).take i)).length + 4) + ((aR.g es (i : Int)).k).length) + (aR.g es (i : Int)).d.length) (fx v)) (fun y v => True) _ _ (fun y v => [Row (U5) (ed v) ((((aa.aX ((es.map Ce.ch).take i)).length + 4) + ((aR.g es (i : Int)).k).length) + (aR.g es (i : Int)).d.length) (fx v) ((((aa.aX ((es.map Ce.ch).take i)) ++ [((aR.g es (i : Int)).d.length : Int) / 16777216 % 256, ((aR.g es (i : Int)).d.length : Int) / 65536 % 256, ((aR.g es (i : Int)).d.length : Int) / 256 % 256, ((aR.g es (i : Int)).d.length : Int) % 256]) ++ ((aR.g es (i : Int)).k)) ++ (aR.g es (i : Int)).d)]) _ (fun y => rfl) (fun y => rfl) (fun y => rfl) (fun y => rfl) (fun y FF hA => qF (mB (c := (U5)) V.bN V.z5 rfl rfl rfl rfl cW (Rt (f := RX) dm hxm) (by omega)) (.refl _)) (by intros; rfl) (by intros; rfl) (by intros; rfl) (by intro y y2 h; simp only [h 6 (.inr (by decide)), h 12 (.inl rfl)]) (by intro y y2 h; rfl) ?_
  refine ei _ (fun y => rfl) rfl rfl rfl (fun y hA L => dD (iO rfl) ⟨rfl, rfl⟩) (by intros; rfl) (by intro y y2 h; simp only [h 12 (.inr (by decide))]) ?_
  refine (Qb) ?_
  intro y hA
  clear hA
  refine bj<|bE _ (.cons (d := 0) rfl (.cons (d := 4) rfl (.cons (d := 5) rfl (.cons (d := 6) rfl (.nil _)))))<|bo (M := Row U5 (some ⟨b53, 0, none⟩) 4 4 [((aR.g es (i : Int)).d.length : Int) / 16777216 % 256, ((aR.g es (i : Int)).d.length : Int) / 65536 % 256, ((aR.g es (i : Int)).d.length : Int) / 256 % 256, ((aR.g es (i : Int)).d.length : Int) % 256] :: R :: DK es :: Row (U5) (ed (y 12)) ((((aa.aX ((es.map Ce.ch).take i)).length + 4) + ((aR.g es (i : Int)).k).length) + (aR.g es (i : Int)).d.length) (fx (y 12)) ((((aa.aX ((es.map Ce.ch).take i)) ++ [((aR.g es (i : Int)).d.length : Int) / 16777216 % 256, ((aR.g es (i : Int)).d.length : Int) / 65536 % 256, ((aR.g es (i : Int)).d.length : Int) / 256 % 256, ((aR.g es (i : Int)).d.length : Int) % 256]) ++ ((aR.g es (i : Int)).k)) ++ (aR.g es (i : Int)).d) :: F) (fun _ _ h => h)<|bo (sub .nil (.skip (.keep (.keep (.keep .refl))))) ?_
  simp only [List.nil_append]
  generalize (ed (y 6)) = p61
  generalize (fx (y 6)) = c61
  generalize (ed (y 12)) = p67
  generalize (fx (y 12)) = c67
  refine (Qa) ?_
  refine wN [pz 0 [] [0], pz 0 [] [6], pz 3 [0, 1] [], pz 7 [2] [], pz 15 [3] [], pz 0 [] [0], pz 0 [] [6], pz 96 [5, 6] [], pz 224 [7] [], pz 480 [8] [], pz 1023 [4, 9] [], pz 2047 [10] []] [⟨fun y => R, none, none, [2, 4, 7, 9]⟩, ⟨fun y => DK es, none, none, [10]⟩, ⟨fun y => Row U5 p67 ((aa.aX ((es.map Ce.ch).take i)).length + 4 + (aR.g es (i : Int)).k.length + (aR.g es (i : Int)).d.length) c67 ((aa.aX ((es.map Ce.ch).take i)) ++ [((aR.g es (i : Int)).d.length : Int) / 16777216 % 256, ((aR.g es (i : Int)).d.length : Int) / 65536 % 256, ((aR.g es (i : Int)).d.length : Int) / 256 % 256, ((aR.g es (i : Int)).d.length : Int) % 256] ++ (aR.g es (i : Int)).k ++ (aR.g es (i : Int)).d), none, none, []⟩] F V.mixed ?_
  iterate 2 refine nM ?_
  refine (Pg) ?_
  refine nG V.sO ?_
  refine (Vh) ?_
  iterate 2 refine nM ?_
  refine nR (fun y FF hA => xI V.om (by exact bM hR aB)) ?_
  refine nG V.wu ?_
  refine nR (fun y FF hA => iD (c := (aR)) 1 V.jV rfl (by exact bM hR aB) (by omega) (by omega) rfl rfl) ?_
  refine nE (fun y FF hA => aV (Post := [DK es]) (F7 (aR.g es (i : Int)).k hxk (by omega) (aR.g es (i : Int)).p (aR.g es (i : Int)).c (aR.g es (i : Int)).d.length (aR.g es (i : Int)).d (DK es) (tW hxm) rfl (by omega) hxB) V.YG rfl (aq .nil) (fun v G h => by rcases h with ⟨rfl, rfl⟩; exact ⟨rfl, .refl _⟩)) ?_
  refine nA ?_
  refine cG ?_
  intro y hA
  clear hA
  refine bj<|bE _ (.cons (d := 0) rfl (.cons (d := 4) rfl (.cons (d := 5) rfl (.cons (d := 6) rfl (.cons (d := 8) rfl (.nil _))))))<|bo (M := R :: DK es :: Row U5 p67 ((aa.aX ((es.map Ce.ch).take i)).length + 4 + (aR.g es (i : Int)).k.length + (aR.g es (i : Int)).d.length) c67 ((aa.aX ((es.map Ce.ch).take i)) ++ [((aR.g es (i : Int)).d.length : Int) / 16777216 % 256, ((aR.g es (i : Int)).d.length : Int) / 65536 % 256, ((aR.g es (i : Int)).d.length : Int) / 256 % 256, ((aR.g es (i : Int)).d.length : Int) % 256] ++ (aR.g es (i : Int)).k ++ (aR.g es (i : Int)).d) :: F) (fun _ _ h => h)<|(Q5) ?_
  refine oV (dX (r := (aa.gn (aR.g es (i : Int)).k (aR.g es (i : Int)).d) / 16777216) rfl rfl (by decide) (aa.lI (n := 24) rfl (by decide) rfl))<|(vv)<|(Q7) ?_
  refine oV (dX (r := (aa.gn (aR.g es (i : Int)).k (aR.g es (i : Int)).d) / 65536) rfl rfl (by decide) (aa.lI (n := 16) rfl (by decide) rfl))<|(vv)<|(Q7) ?_
  refine oV (dX (r := (aa.gn (aR.g es (i : Int)).k (aR.g es (i : Int)).d) / 256) rfl rfl (by decide) (aa.lI (n := 8) rfl (by decide) rfl))<|(vv)<|(Q7)<|(vv) ?_
  refine cH (U5) [(aa.gn (aR.g es (i : Int)).k (aR.g es (i : Int)).d) / 16777216 % 256, (aa.gn (aR.g es (i : Int)).k (aR.g es (i : Int)).d) / 65536 % 256, (aa.gn (aR.g es (i : Int)).k (aR.g es (i : Int)).d) / 256 % 256, (aa.gn (aR.g es (i : Int)).k (aR.g es (i : Int)).d) % 256] V.bN V.z5 rfl rfl rfl rfl rfl rfl ?_
  intro AJ
  refine eh (c := (U5)) V.bN V.z5 rfl rfl rfl rfl c9 (own aB) (by omega) rfl ?_
  intro p92 c92
  refine (rA) ?_
  have hfin := aa.OA (J := (aa.aX ((es.map Ce.ch).take i))) (k := (aR.g es (i : Int)).k) (d := (aR.g es (i : Int)).d) (n := ((aR.g es (i : Int)).d.length : Int)) (s := (aa.gn (aR.g es (i : Int)).k (aR.g es (i : Int)).d)) rfl rfl
  rw [show (aa.Ch.mk (aR.g es (i : Int)).k (aR.g es (i : Int)).d) = (aR.g es (i : Int)).ch from rfl, ← hjs] at hfin
  rw [hfin, show (aa.aX ((es.map Ce.ch).take i)).length + 4 + (aR.g es (i : Int)).k.length + (aR.g es (i : Int)).d.length + 4 = (aa.aX ((es.map Ce.ch).take (i + 1))).length from by omega]
  exact j3 (i + 1) _ _ ⟨by omega, by omega⟩ (eG ln) (sub (aq (.cons aw (.cons aw .nil))) bp)
 ·refine (Qs) ?_
  obtain rfl : i = es.length := by omega
  rw [show (es.map Ce.ch).take es.length = (es.map Ce.ch) from List.take_of_length_le (by rw [List.length_map]; exact Nat.le_refl _)]
  refine (Qe)<|(Q0)<|(Qr)<|(QK) ?_
  exact af (ez rfl rfl) ⟨_, _, rfl, rfl⟩ (sub (fp .nil) ak)
end Go.Proofs.YtmaiakpjgomnpaaGreat
namespace Go.Proofs.YtmaiakpjgomnpaaGreat
open Go.Sl
theorem V.MN : ay Tryz.prog 23 = true := by kernel_rfl
theorem V.I7 : ay Tryz.prog 27 = true := by kernel_rfl
theorem V.UT : ay Tryz.prog 28 = true := by kernel_rfl
theorem V.Iu : iK Tryz.prog 62 = true := by kernel_rfl
end Go.Proofs.YtmaiakpjgomnpaaGreat
namespace Go.Proofs.YtmaiakpjgomnpaaGreat
open Go.Sl 
attribute [local irreducible] ag.an aJ.gJ aa.cP aa.aX aa.e9 aa.cZ aa.bX aa.jO aa.eM aa.two aa.iq aa.ku aa.jJ aa.parts
abbrev ub (P : List Int) (W H : Nat) (b : Nat) (q : Option Addr) (c : Nat) : List Ce := [Ce.mk aa.bQ (some ⟨b, 0, none⟩) 13 (aa.hB (W : Int) (H : Int)), Ce.mk aa.ba q c (aa.cP (aa.bX P W H)), Ce.mk aa.a8 none 0 []]
theorem PM {P : List Int} {W H : Nat} (s : aa.Sz P W H) (b : Nat) (q : Option Addr) (c : Nat) : ∀ x ∈ ub P W H b q c, aa.jJ x.ch := fun x hx => by
 simp only [ub, List.mem_cons, List.not_mem_nil, or_false] at hx
 rcases hx with rfl | rfl | rfl
 ·exact (aa.ug s _ (List.mem_cons_self ..)).1
 ·exact (aa.ug s _ (List.mem_cons_of_mem _ (List.mem_cons_self ..))).1
 ·exact aa.np
theorem Je (P : List Int) (W H : Nat) (b : Nat) (q : Option Addr) (c : Nat) : aa.aX ((ub P W H b q c).map Ce.ch) = aa.eM P W H := by
 unfold aa.eM aa.kD
 rfl
theorem NC {P : List Int} {W H : Nat} {b : Nat} {q : Option Addr} {c c1 : Nat} {w0 : World} {h : Hp} (hh : bW w0 [Row U5 (some ⟨b, 0, none⟩) 13 c1 (aa.hB (W : Int) (H : Int)), Row U5 q (aa.cP (aa.bX P W H)).length c (aa.cP (aa.bX P W H))] h) : DK (ub P W H b q c) w0 h := by
 obtain ⟨h1, h2, _, l1, l2, a, h3, h4, _, l3, l4, d, _⟩ := hh
 intro x hx
 simp only [ub, List.mem_cons, List.not_mem_nil, or_false] at hx
 rcases hx with rfl | rfl | rfl
 ·exact (Row.Ep a).mono l1
 ·exact (Row.Ep d).mono (Hp.le_trans l3 l2)
 ·exact ⟨rfl, .inl rfl⟩
set_option maxHeartbeats 8000000 in
theorem Mg (P : List Int) (W H : Nat) (hs : aa.Sz P W H) (q : Option Addr) (cc : Nat) (hcap : P.length ≤ cc) (R : ad) (hR : ∀ w0 h, R w0 h → aF (aD 62 .u16) q P.length P w0 h) : az Tryz.prog 22 [.agg #[.int .i64 (W : Int), .int .i64 (H : Int), .slice q P.length cc]] [R] (aG fun v G => ∃ q2 c2, v = .slice q2 (aa.eM P W H).length c2 ∧ G = [Row U5 q2 (aa.eM P W H).length c2 (aa.eM P W H), R]) := by
 refine au [(0, _)] Tryz.func22 rfl Tryz.ntmps22 rfl rfl ?_
 intro w0 F
 have hn := aa.Nb hs
 have hw := hs.w
 have hh := hs.h
 refine (rF) ?_
 intro b1
 refine (QI)<|(ru) ?_
 rw [show Row U5 none 0 0 [] = Row U5 none (aa.bX P W 0).length 0 (aa.bX P W 0) from by unfold aa.bX; rfl, show ((3 : Nat), Value.slice none 0 0) = (3, .slice none (aa.bX P W 0).length 0) from by unfold aa.bX; rfl]
 refine fN (fun (y : Nat) (po : Option Addr) (co : Nat) => [(1, .pointer (some ⟨b1, 0, none⟩)), (3, .slice po (aa.bX P W y).length co), (4, .int .i64 (y : Int))]) (fun (y : Nat) (po : Option Addr) (co : Nat) => Row U5 po (aa.bX P W y).length co (aa.bX P W y) :: ai b1 26 [.int .i64 (W : Int), .int .i64 (H : Int), .slice q P.length cc] :: R :: F) (fun (y : Nat) (po : Option Addr) (co : Nat) => y ≤ H) (fun (y : Nat) (po : Option Addr) (co : Nat) => H - y) (i3 (0) (none) (0) ?_ (gK ln) (sub (fp .nil) ak)) ?_
 ·exact Nat.zero_le _
 intro y po co
 rintro hy
 refine rL TT 5 rfl<|(QW)<|(Qi) ?_
 refine aC rfl (fun h13 => ?_) (fun h13 => ?_)
 ·refine (Qe) ?_
  have hle := aa.Al (y := y) hs (by omega)
  refine (Q9) ?_
  refine cH (U5) [0] V.bN V.z5 rfl rfl rfl rfl rfl rfl ?_
  intro Pm
  refine (FE) ?_
  intro p18 c18
  refine (Qn) ?_
  rw [show (aa.bX P W y).length + 1 = (aa.jO P W y 0).length from by rw [← aa.Dy, List.length_append]; rfl, aa.Dy]
  refine fN (fun (i : Nat) (pi : Option Addr) (ci : Nat) => [(1, .pointer (some ⟨b1, 0, none⟩)), (3, .slice pi (aa.jO P W y i).length ci), (4, .int .i64 (y : Int)), (5, .int .i64 (i : Int))]) (fun (i : Nat) (pi : Option Addr) (ci : Nat) => Row U5 pi (aa.jO P W y i).length ci (aa.jO P W y i) :: ai b1 26 [.int .i64 (W : Int), .int .i64 (H : Int), .slice q P.length cc] :: R :: F) (fun (i : Nat) (pi : Option Addr) (ci : Nat) => i ≤ 4 * W) (fun (i : Nat) (pi : Option Addr) (ci : Nat) => 4 * W - i) (i3 (0) (_) (_) ?_ (eG ln) (sub (aq (.cons aw (.cons aw .nil))) bp)) ?_
  ·exact Nat.zero_le _
  intro i pi ci
  rintro hi
  refine rL TT 5 rfl<|(QW)<|(tt) ?_
  refine aC rfl (fun h23 => ?_) (fun h23 => ?_)
  ·refine (Qe) ?_
   have hsg := aa.CG (y := y) (i := i) hs.len (by omega) (by omega)
   have hWy : 4 * (W : Int) * (y : Int) = ((4 * W * y : Nat) : Int) := by rw [Int.natCast_mul, Int.natCast_mul]; rfl
   have hq : (aD 62 .u16).g P (((4 * W * y : Nat) : Int) + (i : Int)) = (P.getD (4 * W * y + i) 0) := gE (4 * W * y + i) (by omega)
   have hv := hs.u.get (4 * W * y + i)
   refine (Q9) ?_
   refine oV (aA V.vW rfl dm rfl)<|(AS)<|(QW)<|(ny) ?_
   refine oV (gB (r := ((4 * W * y : Nat) : Int)) rfl rfl (by rw [hWy]; exact gl (by omega) (by omega)))<|(ny) ?_
   refine oV (xI V.gk (by exact bM hR dW))<|oV (xL V.ld (by exact bM hR dW)) ?_
   rw [hq]
   refine (Qi) ?_
   have hle := aa.Lo (y := y) (i := i) hs (by omega) (by omega)
   refine (Q5) ?_
   refine oV (dX (r := (P.getD (4 * W * y + i) 0) / 256) rfl rfl (by decide) (ag.lX (k := 8) (by decide) rfl))<|oV (df V.Iu Tryz.underlying5 rfl (wk (by omega) (by omega)))<|(Q7) ?_
   refine oV (df V.Iu Tryz.underlying5 rfl (aa.fm _))<|cH (U5) [(P.getD (4 * W * y + i) 0) / 256, (P.getD (4 * W * y + i) 0) % 256] V.bN V.z5 rfl rfl rfl rfl rfl rfl ?_
   intro b43
   refine (FE) ?_
   intro p44 c44
   refine (rA) ?_
   have hfin := aa.SF (y := y) (i := i) hs.len (by omega) (by omega)
   have hln : (aa.jO P W y i).length + 2 = (aa.jO P W y (i + 1)).length := by rw [← hfin, List.length_append]; rfl
   rw [hfin, hln]
   exact j3 (i + 1) _ _ ⟨by omega, by omega⟩ (eG ln) (sub (aq (.cons aw (.cons aw .nil))) bp)
  ·refine (Eh) ?_
   obtain rfl : i = 4 * W := by omega
   rw [aa.OF hs.len (by omega)]
   exact j3 (y + 1) _ _ ⟨by omega, by omega⟩ (gK ln) (sub (fp .nil) ak)
 ·refine rC TT 8 rfl<|(QW)<|(Wt)<|(nu)<|(AS)<|(QW)<|(vx)<|(yK)<|(QW)<|(U8)<|(nu)<|(yK)<|(QW)<|(vx) ?_
  refine wQ (T := 5) (k := .u8) (aa.hB (W : Int) (H : Int)) V.bN V.z5 rfl rfl rfl rfl ?_
  intro b59
  refine (Q8) ?_
  obtain rfl : H = y := by omega
  have hle := aa.ng hs
  have hpl := aa.px hs
  have hcl := aa.nL (B := aa.bX P W H) (by omega)
  refine gr (fun w hi => eS hi (show Row U5 po (aa.bX P W H).length co (aa.bX P W H) ∈ _ by exact dm)) (fun hco => ?_)
  refine (Q9) ?_
  refine oV (cn V.Cl V.AX rfl (cs := [_, _]) rfl)<|(Q7) ?_
  refine aj (zZ po co (aa.bX P W H) (Row U5 po (aa.bX P W H).length co (aa.bX P W H)) (fun w0 h hh => ⟨hh.1, hh.2.rd⟩) (by omega) (aa.oo W hs.u H) hco) V.I7  rfl (.cons aw .nil) rfl ?_
  rintro _ _ ⟨qz, cz, rfl, rfl⟩
  iterate 2 refine oV (cn V.Cl V.AX rfl (cs := [_, _]) rfl) ?_
  refine cH (aR) (ub P W H b59 qz cz) V.om V.AX rfl rfl rfl rfl rfl rfl ?_
  intro Fj
  refine Jw (aM (A := DK (ub P W H b59 qz cz)) (.cons c9 (.cons aw .nil)) ak (fun w0 h hh => NC (P := P) (W := W) (H := H) hh))<|aj (Eg (some ⟨Fj, 0, none⟩) 3 (ub P W H b59 qz cz) (Row aR (some ⟨Fj, 0, none⟩) 3 3 (ub P W H b59 qz cz)) (fun w0 h hh => ⟨hh.1, hh.2.rd⟩) (show 3 ≤ 262144 by decide) (PM hs _ _ _) (by rw [Je, hpl]; omega)) V.UT  rfl (.cons aw (aq .nil)) rfl ?_
  rintro _ _ ⟨qj, cj, rfl, rfl⟩
  rw [Je]
  refine (QK) ?_
  exact af (av rfl) ⟨_, _, rfl, rfl⟩ (sub (aq (.cons ig .nil)) lA)
end Go.Proofs.YtmaiakpjgomnpaaGreat
namespace Go.Proofs.YtmaiakpjgomnpaaGreat
open Go.Sl
theorem V.PW : ay Tryz.prog 14 = true := by kernel_rfl
theorem V.sV : ay Tryz.prog 22 = true := by kernel_rfl
end Go.Proofs.YtmaiakpjgomnpaaGreat
namespace Go.Proofs.YtmaiakpjgomnpaaGreat
open Go.Sl 
attribute [local irreducible] ag.an aJ.gJ aa.cP aa.aX aa.e9 aa.cZ aa.bX aa.eM aa.two aa.iq aa.ku aa.jJ
set_option maxHeartbeats 8000000 in
theorem JT  : az Tryz.prog 13 [] [] (aG fun v G => v = .bool true ∧ G = []) := by
 refine au [] Tryz.func13 rfl Tryz.ntmps13 rfl rfl ?_
 intro w0 F
 refine rT TT 7 rfl<|aj (Lq 1 1 (by decide)) V.YO  rfl .nil rfl ?_
 rintro _ _ ⟨bq, rfl, rfl⟩
 rw [show (4 * (1 : Int) * 1).toNat = 4 from rfl, show List.replicate 4 (0 : Int) = [0, 0, 0, 0] from rfl]
 refine (Qi)<|(vp) ?_
 intro b1
 refine (Df) ?_
 refine (Q8) ?_
 refine wN [pz 0 [] [1], pz 1 [0] [], pz 0 [] [1], pz 4 [2] [], pz 3 [1] [], pz 19 [4] [], pz 63 [3] [], pz 127 [6] []] [⟨fun y => ai b1 26 [.int .i64 1, .int .i64 1, .slice (some ⟨bq, 0, none⟩) 4 4], none, none, [1, 3]⟩, ⟨fun y => Row (aD 62 .u16) (some ⟨bq, 0, none⟩) 4 4 [0, 0, 0, 0], none, some 5, [4]⟩, ⟨fun y => Row (aD 62 .u16) (some ⟨bq, 0, none⟩) 4 4 (([0, 0, 0, 0]).set (2 : Int).toNat 7), some 5, some 7, [6]⟩, ⟨fun y => Row (aD 62 .u16) (some ⟨bq, 0, none⟩) 4 4 ((([0, 0, 0, 0]).set (2 : Int).toNat 7).set (3 : Int).toNat 65535), some 7, none, []⟩] F V.mixed ?_
 refine nG V.sK ?_
 refine (Jo) ?_
 refine nG V.sK ?_
 refine (Jo) ?_
 refine (VH) ?_
 refine (Wj) ?_
 refine (VH) ?_
 refine (Wj) ?_
 refine (Qb) ?_
 intro y hA
 clear hA
 refine bj<|bE _ (.cons (d := 1) rfl (.nil _))<|bo (M := ai b1 26 [.int .i64 1, .int .i64 1, .slice (some ⟨bq, 0, none⟩) 4 4] :: Row (aD 62 .u16) (some ⟨bq, 0, none⟩) 4 4 ((([0, 0, 0, 0]).set (2 : Int).toNat 7).set (3 : Int).toNat 65535) :: F) (fun _ _ h => h)<|(Qa) ?_
 rw [show (([0, 0, 0, 0] : List Int).set ((2 : Int)).toNat 7).set ((3 : Int)).toNat 65535 = [0, 0, 7, 65535] from rfl]
 have hpl := aa.px aa.D9
 have hrl := aa.ng aa.D9
 have hcl := aa.nL (B := aa.bX [0, 0, 7, 65535] 1 1) (by omega)
 refine (Qo)<|(rB) ?_
 refine aj (Mg [0, 0, 7, 65535] 1 1 aa.D9 (some ⟨bq, 0, none⟩) 4 (by decide) (Row (aD 62 .u16) (some ⟨bq, 0, none⟩) 4 4 [0, 0, 7, 65535]) (fun w0 h hh => ⟨hh.1, hh.2.rd⟩)) V.sV  rfl (.cons aw .nil) rfl ?_
 rintro _ _ ⟨q2, c2, rfl, rfl⟩
 refine DR (fun w hi => eS hi (show Row U5 q2 (aa.eM [0, 0, 7, 65535] 1 1).length c2 (aa.eM [0, 0, 7, 65535] 1 1) ∈ _ by exact aB)) (fun hc2 => ?_)
 refine aj (rQ q2 c2 (aa.eM [0, 0, 7, 65535] 1 1) (Row U5 q2 (aa.eM [0, 0, 7, 65535] 1 1).length c2 (aa.eM [0, 0, 7, 65535] 1 1)) (fun w0 h hh => ⟨hh.1, hh.2.rd⟩) (by omega) (aa.DO aa.D9) hc2 _ (aa.Eb aa.D9)) V.PW  rfl (aq .nil) rfl ?_
 rintro _ _ ⟨qd, nd, cd, rfl, hnd, hcd, rfl⟩
 obtain rfl : nd = 4 := hnd.symm
 refine (Qi)<|(vp) ?_
 intro b3
 refine (Df)<|(Q8)<|(ru)<|(Qo) ?_
 refine aj (rQ none 0 [] (Row U5 none 0 0 []) (fun w0 h hh => ⟨hh.1, hh.2.rd⟩) (by decide) aJ.ir (by decide) _ aa.L9) V.PW  rfl (aq .nil) rfl ?_
 rintro _ _ ⟨qe, ne, ce, rfl, hne, hce, rfl⟩
 obtain rfl : ne = 0 := hne.symm
 refine (Qi)<|(vp) ?_
 intro b5
 refine (Df)<|(Q1)<|(Qz)<|(QY) ?_
 refine oV (dv V.fZ rfl DL (vs := [_, _, _]) rfl rfl)<|(Q0) ?_
 refine oV (dv V.fZ rfl iH (vs := [_, _, _]) rfl rfl)<|(Q0) ?_
 refine aj (Ef 1 1 (some ⟨bq, 0, none⟩) 4 4 [0, 0, 7, 65535] rfl (Row (aD 62 .u16) (some ⟨bq, 0, none⟩) 4 4 [0, 0, 7, 65535]) (fun w0 h hh => ⟨hh.1, hh.2.rd⟩) 1 1 qd 4 cd [0, 0, 7, 65535] rfl (Row (aD 62 .u16) qd 4 cd [0, 0, 7, 65535]) (fun w0 h hh => ⟨hh.1, hh.2.rd⟩) (by decide) true (decide_eq_true (by unfold aa.iq; exact ⟨⟨by decide, rfl⟩, ⟨by decide, rfl⟩, rfl, rfl, rfl⟩)).symm) V.MN  rfl (.cons oQ (.cons ig .nil)) rfl ?_
 rintro _ _ ⟨rfl, rfl⟩
 refine rO TT 3 rfl ?_
 refine dg rfl ?_
 refine oV (cQ (dE rfl rfl) (by omega)) ?_
 refine rO TT 2 rfl ?_
 refine dg rfl ?_
 refine aj (iC 6) V.pZ  rfl .nil rfl ?_
 rintro _ _ ⟨rfl, rfl⟩
 refine (Q0)<|(xR)<|(Q3) ?_
 exact af (av rfl) ⟨rfl, rfl⟩ (sub .nil Is)
end Go.Proofs.YtmaiakpjgomnpaaGreat
namespace Go.Proofs.YtmaiakpjgomnpaaGreat
open Go.Sl
theorem V.oZ : ay Tryz.prog 13 = true := by kernel_rfl
end Go.Proofs.YtmaiakpjgomnpaaGreat
namespace Go.Proofs.YtmaiakpjgomnpaaGreat
open Go.Sl
end Go.Proofs.YtmaiakpjgomnpaaGreat
namespace Go.aa
open Go.ag Go.Sl
def Ga (l : List Ch) (q : List Int × Int) : pC × Int :=
  if q.2 ≠ 0 then (dM, q.2) else if (q.1.length : Int) < want (aL (dr l)) then (dM, 2)
  else match eo (oU l) q.1 (aN (aL (dr l))) 0 (jd (aL (dr l))) with
    | none => (dM, 4)
    | some pix => (⟨(aL (dr l)).w, (aL (dr l)).h, pix⟩, 0)
def Px (l : List Ch) : Prop := l9 (aL (dr l)) (bD l aS) (dZ l aS) (bD l aY) (dZ l aY)
theorem Ky {B : List Int} {l : List Ch} {q : List Int × Int} (hc : cut B = .ok l) (ho : cD l = true) (hh : eF (dr l) = 0) (ht : Px l) (hq : aH.mv (bU l) (want (aL (dr l))) q) : ku B (Ga l q) := by
  unfold ku
  rw [hc]
  simp only
  rw [if_neg (by rw [ho]; decide), if_neg (fun h => h hh), if_neg (fun h => h ht)]
  refine ⟨q, hq, ?_⟩
  unfold Ga
  split
  · rfl
  · show (if (q.1.length : Int) < want (aL (dr l)) then _ else _)
    split
    · rfl
    · show (match eo (oU l) q.1 (aN (aL (dr l))) 0 (jd (aL (dr l))) with | none => _ | some pix => _)
      cases eo (oU l) q.1 (aN (aL (dr l))) 0 (jd (aL (dr l))) <;> rfl
def JC : List Int := [97, 98, 99, 100]
def VK (k : Nat) (w h : Int) : List Int := [0, 0, w / 256, w % 256, 0, 0, h / 256, h % 256, 16, if k = 6 then 5 else 6, 0, 0, 0]
def Xy (k : Nat) (R : List Int) : List Int := if k = 1 then R.take (R.length - 1) else if k = 2 then R ++ [0] else if k = 3 then R.set 0 5 else R
def MT (k : Nat) : List Ch := if k = 4 then [⟨aY, [0, 0]⟩] else if k = 5 then [⟨aS, [1, 2, 3, 4]⟩] else []
def tL (k : Nat) (w h : Int) (z : List Int) : List Ch := ⟨bQ, VK k w h⟩ :: ⟨JC, []⟩ :: (MT k ++ [⟨ba, z⟩, ⟨a8, []⟩])
def tE (k : Nat) : Int := if k = 0 then 0 else if k = 1 then 2 else if k = 2 then 6 else 4
def tF (k : Nat) (P : List Int) (W H : Nat) : List Int := aX (tL k (W : Int) (H : Int) (cP (Xy k (bX P W H))))
def tR (k : Nat) (P : List Int) (W H : Nat) : pC × Int := if k = 0 then (⟨(W : Int), (H : Int), P⟩, 0) else (dM, tE k)
def tI (k : Nat) (w h : Int) (z : List Int) : List Ch := ⟨bQ, VK k w h⟩ :: ⟨JC, []⟩ :: (MT k ++ [⟨ba, z⟩])
end Go.aa
namespace Go.aa
open Go.ag Go.Sl
def mL (kind : Int) (row above : List Int) (back i : Nat) : Int := (row.getD i 0 - lz kind (gz row i back) (above.getD i 0) (gz above i back)) % 256
def uc (kind : Int) (row above : List Int) (back n : Nat) : List Int := (List.range n).map (mL kind row above back)
def kq (kind : Int) (row above : List Int) (back : Nat) : List Int := uc kind row above back row.length
theorem nj (kind : Int) (row above : List Int) (back n : Nat) : (uc kind row above back n).length = n := by simp [uc]
theorem SX (kind : Int) (row above : List Int) (back n : Nat) : uc kind row above back (n + 1) = uc kind row above back n ++ [mL kind row above back n] := by simp [uc, List.range_succ]
theorem qI (kind : Int) (row above : List Int) (back : Nat) : (kq kind row above back).length = row.length := nj ..
theorem RV (kind : Int) (row above : List Int) (back i : Nat) : 0 ≤ mL kind row above back i ∧ mL kind row above back i < 256 := by unfold mL; omega
theorem LK (kind : Int) (row above : List Int) (back : Nat) : an (kq kind row above back) := fun x hx => by
  obtain ⟨i, _, rfl⟩ := List.mem_map.1 hx
  exact RV ..
theorem LS {kind : Int} {row above : List Int} {back i : Nat} (h : i < row.length) : (kq kind row above back).getD i 0 = mL kind row above back i := by
  unfold kq uc
  rw [List.getD_eq_getElem?_getD, List.getElem?_map, List.getElem?_range h]
  rfl
theorem RO {kind : Int} {row above : List Int} {back : Nat} (h : an row) (h0 : 0 < back) : fa kind (kq kind row above back) above back = row := by
  have e : ∀ i, i ≤ row.length → gx kind (kq kind row above back) above back i = row.take i := by
    intro i
    induction i with
    | zero => intro _; simp [gx]
    | succ i ih =>
      intro hi
      have hb := h.get i
      rw [gx, ih (by omega), ab.gW (by omega)]
      have e1 : gz (row.take i) i back = gz row i back := by
        unfold gz
        split
        · rfl
        · rw [List.getD_eq_getElem?_getD, List.getD_eq_getElem?_getD, List.getElem?_take, if_pos (by omega)]
      have e2 : iK kind (kq kind row above back) above back (row.take i) i = row.getD i 0 := by
        unfold iK
        rw [e1, LS (by omega)]
        unfold mL
        omega
      rw [e2]
  rw [fa, qI, e _ (Nat.le_refl _), List.take_length]
def bt (bs : List Int) (n m : Nat) : Int := if m < n then bs.getD m 0 else 0
def A8 (bs : List Int) (n j : Nat) : Int := 128 * bt bs n (8 * j) + 64 * bt bs n (8 * j + 1) + 32 * bt bs n (8 * j + 2) + 16 * bt bs n (8 * j + 3) + 8 * bt bs n (8 * j + 4) + 4 * bt bs n (8 * j + 5) + 2 * bt bs n (8 * j + 6) + bt bs n (8 * j + 7)
def U2 (bs : List Int) (n : Nat) : List Int := (List.range ((bs.length + 7) / 8)).map (A8 bs n)
def PU (bs : List Int) : List Int := U2 bs bs.length
def UP (bs : List Int) : Prop := ∀ x ∈ bs, x = 0 ∨ x = 1
def IZ (x : Int) (d : Nat) : List Int := (List.range d).map fun i => x / 2 ^ (d - 1 - i) % 2
def SU (l : List Int) (d : Nat) : List Int := l.flatMap fun x => IZ x d
end Go.aa
namespace Go.aa
open Go.ag Go.Sl
def iR (h : List Int) (mid : List Ch) (z : List Int) : List Ch := ⟨bQ, h⟩ :: (mid ++ [⟨ba, z⟩, ⟨a8, []⟩])
def NH (h : List Int) (mid : List Ch) (z : List Int) : List Ch := ⟨bQ, h⟩ :: (mid ++ [⟨ba, z⟩])
structure kQ (h : List Int) (mid : List Ch) (z : List Int) : Prop where
 hh : an h ∧ h.length = 13
 hm : ∀ c ∈ mid, jJ c ∧ c.k ≠ a8
 hz : an z ∧ z.length ≤ 200000
 hl : (gN mid).length ≤ 50000
theorem IL (h : List Int) (mid : List Ch) (z : List Int) : iR h mid z = NH h mid z ++ [⟨a8, []⟩] := by simp [iR, NH]
theorem kQ.Vt {h : List Int} {mid : List Ch} {z : List Int} (o : kQ h mid z) : ∀ c ∈ NH h mid z, jJ c ∧ c.k ≠ a8 := fun c hc => by
 have h1 := o.hh.2
 have h2 := o.hz.2
 rcases List.mem_cons.1 hc with rfl | hc
 ·exact ⟨⟨BJ, o.hh.1, by show h.length ≤ _; omega⟩, PL⟩
 ·rcases List.mem_append.1 hc with hc | hc
  ·exact o.hm c hc
  ·rw [List.mem_singleton.1 hc]
   exact ⟨⟨CB, o.hz.1, by show z.length ≤ _; omega⟩, N6⟩
theorem kQ.ok {h : List Int} {mid : List Ch} {z : List Int} (o : kQ h mid z) : ∀ c ∈ iR h mid z, jJ c := fun c hc => by
 rw [IL] at hc
 rcases List.mem_append.1 hc with h | h
 ·exact (o.Vt c h).1
 ·rw [List.mem_singleton.1 h]; exact np
theorem kQ.pS {h : List Int} {mid : List Ch} {z : List Int} (o : kQ h mid z) : an (aX (iR h mid z)) := vZ o.ok
theorem kQ.size {h : List Int} {mid : List Ch} {z : List Int} (o : kQ h mid z) : (aX (iR h mid z)).length ≤ 250100 := by
 have e : aX (iR h mid z) = ee ++ (e9 ⟨bQ, h⟩ ++ (gN mid ++ (e9 ⟨ba, z⟩ ++ e9 ⟨a8, []⟩))) := by simp [aX, gN, iR]
 have e1 : (e9 ⟨bQ, h⟩).length = 12 + h.length := jb (c := ⟨bQ, h⟩) rfl
 have e3 : (e9 ⟨ba, z⟩).length = 12 + z.length := jb (c := ⟨ba, _⟩) rfl
 have e4 : (e9 ⟨a8, []⟩).length = 12 := jb (c := ⟨a8, []⟩) rfl
 have e5 : ee.length = 8 := rfl
 have h1 := o.hh.2
 have h2 := o.hz.2
 have h3 := o.hl
 rw [e]
 simp only [List.length_append, e1, e3, e4, e5]
 omega
theorem kQ.cut {h : List Int} {mid : List Ch} {z : List Int} (o : kQ h mid z) : cut (aX (iR h mid z)) = .ok (iR h mid z) := by
 have hl := o.size
 rw [IL] at hl ⊢
 exact zi np rfl o.Vt (by omega)
def FQ (d : Nat) : Prop := d = 1 ∨ d = 2 ∨ d = 4 ∨ d = 8
def VO (n d c : Int) : List Int := [0, 0, n / 256, n % 256, 0, 0, 0, 1, d, c, 0, 0, 0]
def XR (d : Nat) (key x : Int) : List Int := [x % 2 ^ d * (65535 / (2 ^ d - 1)), x % 2 ^ d * (65535 / (2 ^ d - 1)), x % 2 ^ d * (65535 / (2 ^ d - 1)), if x % 2 ^ d = key then 0 else 65535]
def gP (v : List Int) (d : Nat) (key : Int) : List Int := v.flatMap (XR d key)
def PB (v : List Int) (d : Nat) (kind : Int) : List Int := kind :: kq kind (PU (SU v d)) [] 1
def W8 (a b : Int) : List Ch := [⟨aY, [a, b]⟩]
def gF (v : List Int) (d : Nat) (kind a b : Int) : List Int := aX (iR (VO v.length d 0) (W8 a b) (cP (PB v d kind)))
structure GOk (v : List Int) (d : Nat) (kind key a b : Int) : Prop where
 hn : 1 ≤ v.length ∧ v.length ≤ 256
 hd : FQ d
 hk : 0 ≤ kind ∧ kind ≤ 4
 ha : 0 ≤ a ∧ a < 256
 hb : 0 ≤ b ∧ b < 256
 ZL : (a * 256 + b) % 2 ^ d = key
end Go.aa
namespace Go.aa
open Go.ag Go.Sl
def X7 (T : List (List Int)) : List Int := T.flatMap id
def YM (T : List (List Int)) : Prop := ∀ t ∈ T, t.length = 3 ∧ an t
def Xt (T : List (List Int)) (al : List Int) (k : Int) : List Int := [(T.getD k.toNat []).getD 0 0 * 257, (T.getD k.toNat []).getD 1 0 * 257, (T.getD k.toNat []).getD 2 0 * 257, if k.toNat < al.length then al.getD k.toNat 0 * 257 else 65535]
def pP (v : List Int) (T : List (List Int)) (al : List Int) : List Int := v.flatMap (Xt T al)
def XF (v : List Int) (d : Nat) : List Int := 0 :: PU (SU v d)
def WO (T : List (List Int)) (al : List Int) : List Ch := [⟨aS, X7 T⟩, ⟨aY, al⟩]
def pF (v : List Int) (T : List (List Int)) (al : List Int) (d : Nat) : List Int := aX (iR (VO v.length d 3) (WO T al) (cP (XF v d)))
structure POk (v : List Int) (T : List (List Int)) (al : List Int) (d : Nat) : Prop where
  hn : 1 ≤ v.length ∧ v.length ≤ 200
  hd : FQ d
  hT : 1 ≤ T.length ∧ T.length ≤ 256 ∧ T.length ≤ 2 ^ d
  h3 : YM T
  ha : an al ∧ al.length ≤ T.length
  hv : ∀ x ∈ v, 0 ≤ x ∧ x < 2 ^ d
end Go.aa
namespace Go.aa
open Go.ag Go.Sl
def dY (W : Nat) (p : Ps) (y x : Nat) : Nat := ((p.y + y * p.dy) * W + (p.x + x * p.dx)).toNat
def eH (P : List Int) (q : Nat) : List Int := [P.getD (4 * q) 0, P.getD (4 * q + 1) 0, P.getD (4 * q + 2) 0, P.getD (4 * q + 3) 0]
def mW (P : List Int) (W : Nat) (p : Ps) (y n : Nat) : List Int := (List.range n).flatMap fun x => eH P (dY W p y x)
def gX (P : List Int) (W : Nat) (p : Ps) (y n : Nat) : List Int := two (mW P W p y n)
def fV (P : List Int) (W : Nat) (p : Ps) (y : Nat) : List Int := gX P W p y p.w.toNat
def k5 (n : Int) (y : Nat) : Int := (n + y) % 5
def fC (P : List Int) (W : Nat) (p : Ps) : Nat → List Int
 | 0 => []
 | y + 1 => fV P W p y
def jk (P : List Int) (W : Nat) (n : Int) (p : Ps) : Nat → List Int
 | 0 => []
 | y + 1 => jk P W n p y ++ (k5 n y :: kq (k5 n y) (fV P W p y) (fC P W p y) 8)
def bO (P : List Int) (W : Nat) (n : Int) (l : List Ps) : List Int := l.flatMap fun p => jk P W n p p.h.toNat
theorem z8 (a b : List Int) : two (a ++ b) = two a ++ two b := by simp [two]
theorem wP (P : List Int) (W : Nat) (p : Ps) (y n : Nat) : mW P W p y (n + 1) = mW P W p y n ++ eH P (dY W p y n) := by simp [mW, List.range_succ]
theorem ox (P : List Int) (W : Nat) (p : Ps) (y : Nat) : ∀ n, (mW P W p y n).length = 4 * n
 | 0 => rfl
 | n + 1 => by rw [wP, List.length_append, ox P W p y n]; rfl
theorem vF (P : List Int) (W : Nat) (p : Ps) (y n : Nat) : (gX P W p y n).length = 8 * n := by unfold gX; rw [qX, ox]; omega
theorem ou (P : List Int) (W : Nat) (p : Ps) (y : Nat) : (fV P W p y).length = 8 * p.w.toNat := vF ..
theorem xv (P : List Int) (W : Nat) (p : Ps) (y : Nat) : ∀ (n : Nat) {x j : Nat}, x < n → j < 4 → (mW P W p y n).getD (4 * x + j) 0 = P.getD (4 * dY W p y x + j) 0
 | 0, x, j, h, _ => absurd h (Nat.not_lt_zero _)
 | n + 1, x, j, h, hj => by
  have hl := ox P W p y n
  rw [wP, List.getD_eq_getElem?_getD]
  by_cases e : x = n
  ·subst e
   rw [List.getElem?_append_right (by omega), hl, Nat.add_sub_cancel_left, ← List.getD_eq_getElem?_getD]
   have : j = 0 ∨ j = 1 ∨ j = 2 ∨ j = 3 := by omega
   rcases this with rfl | rfl | rfl | rfl <;> rfl
  ·rw [List.getElem?_append_left (by omega), ← List.getD_eq_getElem?_getD, xv P W p y n (by omega) hj]
theorem Ei {P : List Int} (h : jA P) (W : Nat) (p : Ps) (y n : Nat) : jA (mW P W p y n) := fun x hx => by
 obtain ⟨i, _, hx⟩ := List.mem_flatMap.1 hx
 simp only [eH, List.mem_cons, List.not_mem_nil, or_false] at hx
 rcases hx with rfl | rfl | rfl | rfl <;> exact h.get _
theorem oF {P : List Int} (h : jA P) (W : Nat) (p : Ps) (y : Nat) : an (fV P W p y) := qK (Ei h W p y _)
theorem tw (n : Int) (y : Nat) : 0 ≤ k5 n y ∧ k5 n y ≤ 4 := by unfold k5; omega
theorem lS (P : List Int) (W : Nat) (n : Int) (p : Ps) : ∀ y, (jk P W n p y).length = y * (1 + 8 * p.w.toNat)
 | 0 => by simp [jk]
 | y + 1 => by
  have e : (y + 1) * (1 + 8 * p.w.toNat) = y * (1 + 8 * p.w.toNat) + (1 + 8 * p.w.toNat) := Nat.succ_mul _ _
  rw [jk, List.length_append, lS P W n p y, List.length_cons, qI, ou, e]; omega
theorem Bg (P : List Int) (W : Nat) (n : Int) (p : Ps) (y : Nat) : ∀ k, ∃ r, jk P W n p (y + k) = jk P W n p y ++ r
 | 0 => ⟨[], by simp⟩
 | k + 1 => by
  obtain ⟨r, h⟩ := Bg P W n p y k
  exact ⟨r ++ _, by rw [← Nat.add_assoc, jk, h, List.append_assoc]⟩
theorem AK (P : List Int) (W : Nat) (n : Int) (p : Ps) : ∀ y, an (jk P W n p y)
 | 0 => fun x hx => by cases hx
 | y + 1 => aJ.an.app (AK P W n p y) (aH.od (by have := tw n y; omega) (LK _ _ _ _))
theorem rX (P : List Int) (W : Nat) (n : Int) (l : List Ps) : an (bO P W n l) := fun x hx => by
 obtain ⟨p, _, hx⟩ := List.mem_flatMap.1 hx
 exact AK P W n p _ x hx
theorem PJ {P A B : List Int} {W : Nat} {n : Int} {p : Ps} {H y : Nat} (hy : y < H) : (A ++ (jk P W n p H ++ B)).getD (A.length + y * (1 + 8 * p.w.toNat)) 0 = k5 n y ∧ ((A ++ (jk P W n p H ++ B)).drop (A.length + y * (1 + 8 * p.w.toNat) + 1)).take (8 * p.w.toNat) = kq (k5 n y) (fV P W p y) (fC P W p y) 8 := by
 obtain ⟨r, h⟩ := Bg P W n p (y + 1) (H - (y + 1))
 rw [show y + 1 + (H - (y + 1)) = H by omega, jk] at h
 have hl := lS P W n p y
 have hd : (kq (k5 n y) (fV P W p y) (fC P W p y) 8).length = 8 * p.w.toNat := by rw [qI, ou]
 have e : A ++ (jk P W n p H ++ B) = (A ++ jk P W n p y) ++ (k5 n y :: (kq (k5 n y) (fV P W p y) (fC P W p y) 8 ++ (r ++ B))) := by rw [h]; simp
 have hl2 : (A ++ jk P W n p y).length = A.length + y * (1 + 8 * p.w.toNat) := by rw [List.length_append, hl]
 rw [e]
 constructor
 ·rw [List.getD_eq_getElem?_getD, List.getElem?_append_right (by omega), hl2, Nat.sub_self]; rfl
 ·rw [← List.drop_drop, ← hl2, List.drop_left, List.drop_succ_cons, List.drop_zero, ← hd, List.take_left]
def gd (P pix : List Int) (m : Nat) : Prop := pix.getD m 0 = P.getD m 0
theorem NZ {P pix : List Int} {W q : Nat} {x y : Int} (hq : q = (y * W + x).toNat) (h0 : 0 ≤ y * W + x) (hl : pix.length = P.length) (hb : 4 * q + 4 ≤ P.length) : (jq (W : Int) pix x y (eH P q)).length = P.length ∧ (∀ m, gd P pix m → gd P (jq (W : Int) pix x y (eH P q)) m) ∧ ∀ j, j < 4 → gd P (jq (W : Int) pix x y (eH P q)) (4 * q + j) := by
 have e : (4 * (y * (W : Int) + x)).toNat = 4 * q := by omega
 have ht : (pix.take (4 * q)).length = 4 * q := by rw [List.length_take]; omega
 unfold jq gd
 rw [e]
 have hget : ∀ m, (pix.take (4 * q) ++ eH P q ++ pix.drop (4 * q + 4)).getD m 0 = if m < 4 * q then pix.getD m 0 else if m < 4 * q + 4 then P.getD m 0 else pix.getD m 0 := fun m => by
  rw [List.getD_eq_getElem?_getD, List.append_assoc]
  by_cases h1 : m < 4 * q
  ·rw [if_pos h1, List.getElem?_append_left (by omega), List.getElem?_take, if_pos h1, ← List.getD_eq_getElem?_getD]
  ·rw [if_neg h1, List.getElem?_append_right (by omega), ht]
   by_cases h2 : m < 4 * q + 4
   ·rw [if_pos h2, List.getElem?_append_left (by show m - 4 * q < 4; omega), ← List.getD_eq_getElem?_getD]
    obtain ⟨j, rfl⟩ : ∃ j, m = 4 * q + j := ⟨m - 4 * q, by omega⟩
    rw [Nat.add_sub_cancel_left]
    have : j = 0 ∨ j = 1 ∨ j = 2 ∨ j = 3 := by omega
    rcases this with rfl | rfl | rfl | rfl <;> rfl
   ·rw [if_neg h2, List.getElem?_append_right (by show 4 ≤ m - 4 * q; omega), List.getElem?_drop, show 4 * q + 4 + (m - 4 * q - (eH P q).length) = m by show 4 * q + 4 + (m - 4 * q - 4) = m; omega, ← List.getD_eq_getElem?_getD]
 refine ⟨?_, fun m hm => ?_, fun j hj => ?_⟩
 ·rw [List.length_append, List.length_append, ht, List.length_drop]
  show 4 * q + 4 + _ = _
  omega
 ·rw [hget]
  split
  ·exact hm
  ·split
   ·rfl
   ·exact hm
 ·rw [hget, if_neg (by omega), if_pos (by omega)]
def dL (w h : Int) : Hd := ⟨w, h, 16, 6, true⟩
theorem N5 (w h : Int) (plte trns : List Int) (a b c d : Int) : gg ⟨dL w h, plte, trns⟩ [a, b, c, d] = some [a, b, c, d] := by
 have e : ∀ v, Eo (dL w h) v = v := fun v => by
  have : (65535 : Int) / (2 ^ (16 : Int).toNat - 1) = 1 := by decide
  simp only [Eo, dL, this, Int.mul_one]
 unfold gg
 simp only [dL] at e ⊢
 rw [if_neg (by decide)]
 have hc : aQ ⟨w, h, 16, 6, true⟩ trns = [] := by unfold aQ; simp
 simp only [hc, List.length_nil, Nat.lt_irrefl, false_and, if_false, List.map_cons, List.map_nil, e]
 rw [if_neg (by decide)]
 simp
theorem T3 {P : List Int} {W : Nat} {p : Ps} {y x : Nat} (w h : Int) (hU : jA P) (hx : x < p.w.toNat) : eu (dL w h) (fV P W p y) x = eH P (dY W p y x) := by
 have hb := oF hU W p y
 have hsu := Ei hU W p y p.w.toNat
 have e : ∀ i, i < 4 → bK (fV P W p y) (x * 4 * 16 + i * 16) 16 = P.getD (4 * dY W p y x + i) 0 := fun i hi => by
  have g := uW (mW P W p y p.w.toNat) (4 * x + i) (by rw [ox]; omega)
  rw [xv P W p y _ hx hi] at g
  rw [show x * 4 * 16 + i * 16 = 16 * (4 * x + i) by omega, zh hb]
  show (two (mW P W p y p.w.toNat)).getD _ 0 * 256 + (two (mW P W p y p.w.toNat)).getD _ 0 = _
  rw [g.1, g.2]
  omega
 have hp : eu (dL w h) (fV P W p y) x = [bK (fV P W p y) (x * 4 * 16 + 0 * 16) 16, bK (fV P W p y) (x * 4 * 16 + 1 * 16) 16, bK (fV P W p y) (x * 4 * 16 + 2 * 16) 16, bK (fV P W p y) (x * 4 * 16 + 3 * 16) 16] := rfl
 rw [hp, e 0 (by decide), e 1 (by decide), e 2 (by decide), e 3 (by decide), Nat.add_zero]
 rfl
theorem EW {P : List Int} {W H : Nat} {p : Ps} {y x : Nat} (hp : fS p (W : Int) (H : Int)) (hP : P.length = 4 * W * H) (hy : y < p.h.toNat) (hx : x < p.w.toNat) : 0 ≤ (p.y + y * p.dy) * (W : Int) + (p.x + x * p.dx) ∧ 4 * dY W p y x + 4 ≤ P.length := by
 have h := TO hp (y := y) (j := x) (by omega) (by omega)
 have h0 : 0 ≤ (p.y + y * p.dy) * (W : Int) + (p.x + x * p.dx) := by
  obtain ⟨x0, _, y0, _, hdx, hdy, _⟩ := hp.1
  have hjx : 0 ≤ (x : Int) * p.dx := by rcases hdx with e | e | e | e <;> rw [e] <;> omega
  have hyy : 0 ≤ (y : Int) * p.dy := by rcases hdy with e | e | e | e <;> rw [e] <;> omega
  have := Int.mul_nonneg (show 0 ≤ p.y + y * p.dy by omega) (show 0 ≤ (W : Int) by omega)
  omega
 refine ⟨h0, ?_⟩
 have e : (4 * (W : Int) * (H : Int)).toNat = 4 * W * H := by
  have : 4 * (W : Int) * (H : Int) = ((4 * W * H : Nat) : Int) := by push_cast; rfl
  rw [this]; rfl
 unfold dY
 omega
theorem C9 {P : List Int} {W H : Nat} {p : Ps} {y : Nat} (hU : jA P) (plte trns : List Int) (hp : fS p (W : Int) (H : Int)) (hP : P.length = 4 * W * H) (hy : y < p.h.toNat) : ∀ k i pix, i + k = p.w.toNat → pix.length = P.length → ∃ pix2, eV ⟨dL (W : Int) (H : Int), plte, trns⟩ p (y : Int) (fV P W p y) k i pix = some pix2 ∧ pix2.length = P.length ∧ (∀ m, gd P pix m → gd P pix2 m) ∧ ∀ x, i ≤ x → x < p.w.toNat → ∀ j, j < 4 → gd P pix2 (4 * dY W p y x + j)
 | 0, i, pix, hi, hl => ⟨pix, by rw [eV], hl, fun m h => h, fun x h1 h2 => by omega⟩
 | k + 1, i, pix, hi, hl => by
  have hb := EW hp hP hy (x := i) (by omega)
  obtain ⟨s1, s2, s3⟩ := NZ (P := P) (pix := pix) (W := W) (q := dY W p y i) (x := p.x + i * p.dx) (y := p.y + y * p.dy) rfl hb.1 hl hb.2
  obtain ⟨pix2, r1, r2, r3, r4⟩ := C9 hU plte trns hp hP hy k (i + 1) _ (by omega) s1
  refine ⟨pix2, ?_, r2, fun m h => r3 m (s2 m h), fun x h1 h2 j hj => ?_⟩
  ·have ep : gg ⟨dL (W : Int) (H : Int), plte, trns⟩ (eH P (dY W p y i)) = some (eH P (dY W p y i)) := N5 ..
   rw [eV, T3 _ _ hU (by omega), ep]
   exact r1
  ·by_cases e : x = i
   ·rw [e]; exact r3 _ (s3 j hj)
   ·exact r4 x (by omega) h2 j hj
theorem AR {P A B : List Int} {W H : Nat} {n : Int} {p : Ps} (hU : jA P) (plte trns : List Int) (hp : fS p (W : Int) (H : Int)) (hP : P.length = 4 * W * H) : ∀ k y pix, y + k = p.h.toNat → pix.length = P.length → ∃ pix2, dO ⟨dL (W : Int) (H : Int), plte, trns⟩ (A ++ (jk P W n p p.h.toNat ++ B)) (8 * p.w.toNat) 8 p k y (A.length + y * (1 + 8 * p.w.toNat)) (fC P W p y) pix = some (A.length + p.h.toNat * (1 + 8 * p.w.toNat), pix2) ∧ pix2.length = P.length ∧ (∀ m, gd P pix m → gd P pix2 m) ∧ ∀ y', y ≤ y' → y' < p.h.toNat → ∀ x, x < p.w.toNat → ∀ j, j < 4 → gd P pix2 (4 * dY W p y' x + j)
 | 0, y, pix, hy, hl => ⟨pix, by rw [dO, show y = p.h.toNat by omega], hl, fun m h => h, fun y' h1 h2 => by omega⟩
 | k + 1, y, pix, hy, hl => by
  have ha := PJ (P := P) (A := A) (B := B) (W := W) (n := n) (p := p) (H := p.h.toNat) (y := y) (by omega)
  have hk := tw n y
  obtain ⟨p1, q1, q2, q3, q4⟩ := C9 hU plte trns hp hP (y := y) (by omega) p.w.toNat 0 pix (by omega) hl
  obtain ⟨p2, r1, r2, r3, r4⟩ := AR (A := A) (B := B) (n := n) hU plte trns hp hP k (y + 1) p1 (by omega) q2
  refine ⟨p2, ?_, r2, fun m h => r3 m (q3 m h), fun y' h1 h2 x hx j hj => ?_⟩
  ·rw [dO, ha.1, if_neg (by omega), ha.2, RO (oF hU W p y) (by decide), q1]
   simp only
   have e : A.length + y * (1 + 8 * p.w.toNat) + 1 + 8 * p.w.toNat = A.length + (y + 1) * (1 + 8 * p.w.toNat) := by rw [Nat.succ_mul y (1 + 8 * p.w.toNat)]; omega
   rw [e]
   exact r1
  ·by_cases e : y' = y
   ·rw [e]; exact r3 _ (q4 x (Nat.zero_le _) hx j hj)
   ·exact r4 y' (by omega) h2 x hx j hj
theorem Mx {p : Ps} (h : 0 ≤ p.w) : (de p.w 64).toNat = 8 * p.w.toNat := by unfold de; omega
theorem Ar {P : List Int} {W H : Nat} {n : Int} (hU : jA P) (plte trns : List Int) (hP : P.length = 4 * W * H) : ∀ (l : List Ps) (A pix : List Int), (∀ p ∈ l, fS p (W : Int) (H : Int)) → pix.length = P.length → ∃ pix2, eo ⟨dL (W : Int) (H : Int), plte, trns⟩ (A ++ bO P W n l) l A.length pix = some pix2 ∧ pix2.length = P.length ∧ (∀ m, gd P pix m → gd P pix2 m) ∧ ∀ p ∈ l, ∀ y, y < p.h.toNat → ∀ x, x < p.w.toNat → ∀ j, j < 4 → gd P pix2 (4 * dY W p y x + j)
 | [], A, pix, _, hl => ⟨pix, by rw [eo], hl, fun m h => h, fun p hp => by cases hp⟩
 | p :: l, A, pix, hin, hl => by
  have hp := hin p (List.mem_cons_self ..)
  obtain ⟨_, _, _, _, _, _, hw0, _, _, _⟩ := hp.1
  obtain ⟨p1, q1, q2, q3, q4⟩ := AR (A := A) (B := bO P W n l) (n := n) hU plte trns hp hP p.h.toNat 0 pix (by omega) hl
  obtain ⟨p2, r1, r2, r3, r4⟩ := Ar hU plte trns hP l (A ++ jk P W n p p.h.toNat) p1 (fun x hx => hin x (List.mem_cons_of_mem _ hx)) q2
  refine ⟨p2, ?_, r2, fun m h => r3 m (q3 m h), fun p' hp' => ?_⟩
  ·have e0 : bO P W n (p :: l) = jk P W n p p.h.toNat ++ bO P W n l := rfl
   rw [eo, e0]
   show (match dO _ _ (de p.w 64).toNat 8 p p.h.toNat 0 A.length [] pix with | none => none | some (at2, pix2) => _) = _
   rw [Mx hw0]
   rw [Nat.zero_mul, Nat.add_zero] at q1
   have e1 : fC P W p 0 = [] := rfl
   rw [e1] at q1
   rw [q1]
   simp only
   rw [List.append_assoc, List.length_append, lS] at r1
   exact r1
  ·rcases List.mem_cons.1 hp' with rfl | h
   ·exact fun y hy x hx j hj => r3 _ (q4 y (Nat.zero_le _) hy x hx j hj)
   ·exact r4 p' h
theorem BB {W H X Y : Nat} (hX : X < W) (hY : Y < H) : ∃ p ∈ aE (W : Int) (H : Int), ∃ y x : Nat, y < p.h.toNat ∧ x < p.w.toNat ∧ p.x + x * p.dx = (X : Int) ∧ p.y + y * p.dy = (Y : Int) := by
 have key : ∀ (a b c d : Int) (x y : Nat), (c = 1 ∨ c = 2 ∨ c = 4 ∨ c = 8) → (d = 1 ∨ d = 2 ∨ d = 4 ∨ d = 8) → a + x * c = (X : Int) → b + y * d = (Y : Int) → mi a b c d (W : Int) (H : Int) ∈ ev (W : Int) (H : Int) → ∃ p ∈ aE (W : Int) (H : Int), ∃ y x : Nat, y < p.h.toNat ∧ x < p.w.toNat ∧ p.x + x * p.dx = (X : Int) ∧ p.y + y * p.dy = (Y : Int) := fun a b c d x y hc hd hx hy hm => by
  have h1 : (x : Int) < many a c (W : Int) := (kO hc (by omega)).1 (by omega)
  have h2 : (y : Int) < many b d (H : Int) := (kO hd (by omega)).1 (by omega)
  refine ⟨_, List.mem_filter.2 ⟨hm, ?_⟩, y, x, ?_, ?_, hx, hy⟩
  ·simp only [Bool.and_eq_true, decide_eq_true_eq]
   exact ⟨by show 0 < many a c _; omega, by show 0 < many b d _; omega⟩
  ·show y < (many b d _).toNat; omega
  ·show x < (many a c _).toNat; omega
 have m1 := key 0 0 8 8
 have m2 := key 4 0 8 8
 have m3 := key 0 4 4 8
 have m4 := key 2 0 4 4
 have m5 := key 0 2 2 4
 have m6 := key 1 0 2 2
 have m7 := key 0 1 1 2
 by_cases c7 : Y % 2 = 1
 ·exact m7 X (Y / 2) (.inl rfl) (.inr (.inl rfl)) (by omega) (by omega) (by simp [ev])
 by_cases c6 : X % 2 = 1
 ·exact m6 (X / 2) (Y / 2) (.inr (.inl rfl)) (.inr (.inl rfl)) (by omega) (by omega) (by simp [ev])
 by_cases c5 : Y % 4 = 2
 ·exact m5 (X / 2) (Y / 4) (.inr (.inl rfl)) (.inr (.inr (.inl rfl))) (by omega) (by omega) (by simp [ev])
 by_cases c4 : X % 4 = 2
 ·exact m4 (X / 4) (Y / 4) (.inr (.inr (.inl rfl))) (.inr (.inr (.inl rfl))) (by omega) (by omega) (by simp [ev])
 by_cases c3 : Y % 8 = 4
 ·exact m3 (X / 4) (Y / 8) (.inr (.inr (.inl rfl))) (.inr (.inr (.inr rfl))) (by omega) (by omega) (by simp [ev])
 by_cases c2 : X % 8 = 4
 ·exact m2 (X / 8) (Y / 8) (.inr (.inr (.inr rfl))) (.inr (.inr (.inr rfl))) (by omega) (by omega) (by simp [ev])
 ·exact m1 (X / 8) (Y / 8) (.inr (.inr (.inr rfl))) (.inr (.inr (.inr rfl))) (by omega) (by omega) (by simp [ev])
def iJ (P : List Int) (W H : Nat) (n : Int) : List Int := bO P W n (aE (W : Int) (H : Int))
def lB (w h : Int) : List Int := [0, 0, w / 256, w % 256, 0, 0, h / 256, h % 256, 16, 6, 0, 0, 1]
def lF (P : List Int) (W H : Nat) (n : Int) : List Int := aX (iR (lB (W : Int) (H : Int)) [] (cP (iJ P W H n)))
theorem wX (P : List Int) (W : Nat) (n : Int) : ∀ l : List Ps, (∀ p ∈ l, iF p ∧ 0 < p.w) → ((bO P W n l).length : Int) = dH l 64
 | [], _ => rfl
 | p :: l, h => by
  have hp := h p (List.mem_cons_self ..)
  obtain ⟨⟨_, _, _, _, _, _, hw0, _, hh0, _⟩, hw⟩ := hp
  have ih := wX P W n l (fun x hx => h x (List.mem_cons_of_mem _ hx))
  have e0 : bO P W n (p :: l) = jk P W n p p.h.toNat ++ bO P W n l := rfl
  have e1 : dH (p :: l) 64 = (if 0 < p.w then p.h * (1 + de p.w 64) else 0) + dH l 64 := rfl
  have e2 : de p.w 64 = ((8 * p.w.toNat : Nat) : Int) := by unfold de; omega
  have e3 : p.h = ((p.h.toNat : Nat) : Int) := by omega
  rw [e0, e1, List.length_append, lS, if_pos hw, e2, ← ih]
  rw [e3]
  push_cast
  simp
theorem oC {P : List Int} {W H : Nat} (s : Sz P W H) (n : Int) : ((iJ P W H n).length : Int) = want (dL (W : Int) (H : Int)) := by
 have hs : aT (dL (W : Int) (H : Int)).w (dL (W : Int) (H : Int)).h = 0 := ti s.w s.h s.wh
 have hin := (ja hs).1
 exact wX P W n _ (fun p hp => ⟨(hin p hp).2.1, (hin p hp).2.2⟩)
theorem sU : ∀ l : List Ps, (∀ p ∈ l, 0 ≤ p.w ∧ 0 ≤ p.h) → dH (l.filter fun p => decide (0 < p.w) && decide (0 < p.h)) 64 ≤ (l.map fun p => p.h + 8 * (p.w * p.h)).sum
 | [], _ => Int.le_refl _
 | p :: l, h => by
  have ih := sU l (fun x hx => h x (List.mem_cons_of_mem _ hx))
  have hp := h p (List.mem_cons_self ..)
  have h0 := Int.mul_nonneg hp.1 hp.2
  rw [List.map_cons, List.sum_cons, List.filter_cons]
  split
  ·have e1 : dH (p :: l.filter fun p => decide (0 < p.w) && decide (0 < p.h)) 64 = (if 0 < p.w then p.h * (1 + de p.w 64) else 0) + dH (l.filter fun p => decide (0 < p.w) && decide (0 < p.h)) 64 := rfl
   have e2 : de p.w 64 = 8 * p.w := by unfold de; omega
   have e3 : p.h * (1 + 8 * p.w) = p.h + 8 * (p.w * p.h) := by
    rw [Int.mul_add, Int.mul_one, Int.mul_comm p.h (8 * p.w), Int.mul_assoc]
   rw [e1, e2]
   split <;> omega
  ·omega
theorem mG {W H : Nat} (hw : 1 ≤ W ∧ W ≤ 256) (hh : 1 ≤ H ∧ H ≤ 256) (hwh : W * H ≤ 16384) : want (dL (W : Int) (H : Int)) ≤ 132100 := by
 have h0 : want (dL (W : Int) (H : Int)) = dH ((ev (W : Int) (H : Int)).filter fun p => decide (0 < p.w) && decide (0 < p.h)) 64 := rfl
 have h1 := sU (ev (W : Int) (H : Int)) (fun p hp => by
  have := AU (w := (W : Int)) (h := (H : Int)) (by omega) (by omega) p hp
  obtain ⟨_, _, _, _, _, _, a, _, b, _⟩ := this
  exact ⟨a, b⟩)
 have e : ((ev (W : Int) (H : Int)).map fun p => p.h + 8 * (p.w * p.h)).sum = (many 0 8 (H : Int) + 8 * (many 0 8 (W : Int) * many 0 8 (H : Int))) + ((many 0 8 (H : Int) + 8 * (many 4 8 (W : Int) * many 0 8 (H : Int))) + ((many 4 8 (H : Int) + 8 * (many 0 4 (W : Int) * many 4 8 (H : Int))) + ((many 0 4 (H : Int) + 8 * (many 2 4 (W : Int) * many 0 4 (H : Int))) + ((many 2 4 (H : Int) + 8 * (many 0 2 (W : Int) * many 2 4 (H : Int))) + ((many 0 2 (H : Int) + 8 * (many 1 2 (W : Int) * many 0 2 (H : Int))) + ((many 1 2 (H : Int) + 8 * (many 0 1 (W : Int) * many 1 2 (H : Int))) + 0)))))) := rfl
 have hWH : ((W * H : Nat) : Int) ≤ 16384 := by omega
 rw [Int.natCast_mul] at hWH
 have w1 : many 0 4 (W : Int) = many 0 8 (W : Int) + many 4 8 (W : Int) := by unfold many; omega
 have w2 : many 0 2 (W : Int) = many 0 8 (W : Int) + many 4 8 (W : Int) + many 2 4 (W : Int) := by unfold many; omega
 have w3 : many 0 1 (W : Int) = many 0 8 (W : Int) + many 4 8 (W : Int) + many 2 4 (W : Int) + many 1 2 (W : Int) := by unfold many; omega
 have w4 : (W : Int) = many 0 8 (W : Int) + many 4 8 (W : Int) + many 2 4 (W : Int) + many 1 2 (W : Int) := by unfold many; omega
 have g1 : many 0 4 (H : Int) = many 0 8 (H : Int) + many 4 8 (H : Int) := by unfold many; omega
 have g2 : many 0 2 (H : Int) = many 0 8 (H : Int) + many 4 8 (H : Int) + many 2 4 (H : Int) := by unfold many; omega
 have g4 : (H : Int) = many 0 8 (H : Int) + many 4 8 (H : Int) + many 2 4 (H : Int) + many 1 2 (H : Int) := by unfold many; omega
 have n1 : 0 ≤ many 0 8 (H : Int) := km (by omega)
 have n2 : 0 ≤ many 4 8 (H : Int) := km (by omega)
 have n3 : 0 ≤ many 2 4 (H : Int) := km (by omega)
 have n4 : 0 ≤ many 1 2 (H : Int) := km (by omega)
 rw [e] at h1
 rw [h0]
 rw [w1, w2, w3, g1, g2] at h1
 have hH : many 0 8 (H : Int) + many 4 8 (H : Int) + many 2 4 (H : Int) + many 1 2 (H : Int) ≤ 256 := by omega
 rw [w4, g4] at hWH
 clear w1 w2 w3 w4 g1 g2 g4 e h0
 generalize many 0 8 (W : Int) = a0 at *
 generalize many 4 8 (W : Int) = a4 at *
 generalize many 2 4 (W : Int) = a2 at *
 generalize many 1 2 (W : Int) = a1 at *
 generalize many 0 8 (H : Int) = b0 at *
 generalize many 4 8 (H : Int) = b4 at *
 generalize many 2 4 (H : Int) = b2 at *
 generalize many 1 2 (H : Int) = b1 at *
 simp only [Int.add_mul, Int.mul_add] at h1 hWH
 omega
theorem Il {W H : Nat} (hw : 1 ≤ W ∧ W ≤ 256) (hh : 1 ≤ H ∧ H ≤ 256) : aL (lB (W : Int) (H : Int)) = dL (W : Int) (H : Int) := by
 unfold aL dL lB
 simp only [aH.cR, List.drop_succ_cons, List.drop_zero, List.getD_cons_zero, List.getD_cons_succ]
 congr 1 <;> first | omega | rfl
theorem Ro {W H : Nat} (hw : 1 ≤ W ∧ W ≤ 256) (hh : 1 ≤ H ∧ H ≤ 256) : an (lB (W : Int) (H : Int)) := fun x hx => by
 simp only [lB, List.mem_cons, List.not_mem_nil, or_false] at hx
 rcases hx with rfl | rfl | rfl | rfl | rfl | rfl | rfl | rfl | rfl | rfl | rfl | rfl | rfl <;> omega
theorem WW {W H : Nat} (hw : 1 ≤ W ∧ W ≤ 256) (hh : 1 ≤ H ∧ H ≤ 256) (hwh : W * H ≤ 16384) : eF (lB (W : Int) (H : Int)) = 0 := by
 unfold eF
 rw [Il hw hh]
 have e1 : (dL (W : Int) (H : Int)).w = (W : Int) := rfl
 have e2 : (dL (W : Int) (H : Int)).h = (H : Int) := rfl
 have e3 : deep (dL (W : Int) (H : Int)).ar (dL (W : Int) (H : Int)).dep := show deep 6 16 by decide
 have e4 : (lB (W : Int) (H : Int)).getD 10 0 = 0 := rfl
 have e5 : (lB (W : Int) (H : Int)).getD 11 0 = 0 := rfl
 have e6 : (lB (W : Int) (H : Int)).getD 12 0 = 1 := rfl
 rw [if_neg (by unfold lB; simp), e1, e2, e4, e5, e6, if_neg (by rintro (h | h | h | h | h); exact h e3; omega; omega; omega; omega), ti hw hh hwh, if_pos rfl]
theorem Ir {P : List Int} {W H : Nat} (s : Sz P W H) (n : Int) : kQ (lB (W : Int) (H : Int)) [] (cP (iJ P W H n)) := by
 have h1 := oC s n
 have h2 := mG s.w s.h s.wh
 have h3 := nL (B := iJ P W H n) (by omega)
 exact ⟨⟨Ro s.w s.h, rfl⟩, (fun c hc => by cases hc), ⟨FG (rX _ _ _ _) (by omega), by omega⟩, by decide⟩
theorem De {P : List Int} {W H : Nat} (s : Sz P W H) (n : Int) : ku (lF P W H n) (⟨(W : Int), (H : Int), P⟩, 0) := by
 have h1 := oC s n
 have h2 := mG s.w s.h s.wh
 have hf := Ir s n
 have hcut := hf.cut
 have hs : aT (dL (W : Int) (H : Int)).w (dL (W : Int) (H : Int)).h = 0 := ti s.w s.h s.wh
 have hh : dr (iR (lB (W : Int) (H : Int)) [] (cP (iJ P W H n))) = lB (W : Int) (H : Int) := rfl
 have ho := Il s.w s.h
 have hidat : bU (iR (lB (W : Int) (H : Int)) [] (cP (iJ P W H n))) = cP (iJ P W H n) := by
  have e : bU (iR (lB (W : Int) (H : Int)) [] (cP (iJ P W H n))) = cP (iJ P W H n) ++ [] := rfl
  rw [e, List.append_nil]
 have hopn : aH.mv (cP (iJ P W H n)) (want (dL (W : Int) (H : Int))) (iJ P W H n, 0) := Fc (rX _ _ _ _) (by omega) (by omega)
 have := Ky (q := (iJ P W H n, 0)) hcut rfl (by rw [hh]; exact WW s.w s.h s.wh) (by
  unfold Px
  rw [hh, ho]
  have e1 : dZ (iR (lB (W : Int) (H : Int)) [] (cP (iJ P W H n))) aS = false := rfl
  have e2 : dZ (iR (lB (W : Int) (H : Int)) [] (cP (iJ P W H n))) aY = false := rfl
  rw [e1, e2]
  unfold l9
  simp [dL]) (by rw [hh, ho, hidat]; exact hopn)
 unfold Ga at this
 rw [if_neg (fun h => h rfl), hh, ho, if_neg (by show ¬ (((iJ P W H n).length : Int) < _); omega)] at this
 have hfl : oU (iR (lB (W : Int) (H : Int)) [] (cP (iJ P W H n))) = ⟨dL (W : Int) (H : Int), [], []⟩ := by
  unfold oU
  rw [hh, ho]
  rfl
 have hp0 : (jd (dL (W : Int) (H : Int))).length = P.length := by
  have e : (4 * (W : Int) * (H : Int)).toNat = P.length := by
   have : 4 * (W : Int) * (H : Int) = ((4 * W * H : Nat) : Int) := by push_cast; rfl
   rw [this, s.len]; rfl
  show (List.replicate (4 * (W : Int) * (H : Int)).toNat 0).length = _
  rw [List.length_replicate, e]
 have hin : ∀ p ∈ aE (W : Int) (H : Int), fS p (W : Int) (H : Int) := mN (by have := s.w; omega) (by have := s.h; omega)
 obtain ⟨pix2, r1, r2, _, r4⟩ := Ar (n := n) s.u [] [] s.len (aE (W : Int) (H : Int)) [] (jd (dL (W : Int) (H : Int))) hin hp0
 have hall : pix2 = P := by
  refine List.ext_getElem r2 (fun m h1 h2 => ?_)
  have hl := s.len
  have hw := s.w.1
  have hq : m / 4 < W * H := by
   rw [Nat.mul_assoc] at hl
   omega
  have hX : m / 4 % W < W := Nat.mod_lt _ (by omega)
  have hY : m / 4 / W < H := Nat.div_lt_of_lt_mul hq
  obtain ⟨p, hp, y, x, hy, hx, ex, ey⟩ := BB hX hY
  have g := r4 p hp y hy x hx (m % 4) (Nat.mod_lt _ (by decide))
  have e : dY W p y x = m / 4 := by
   unfold dY
   rw [ex, ey]
   have : ((m / 4 / W : Nat) : Int) * (W : Int) + ((m / 4 % W : Nat) : Int) = ((m / 4 / W * W + m / 4 % W : Nat) : Int) := by push_cast; rfl
   rw [this, Int.toNat_natCast, Nat.mul_comm]
   exact Nat.div_add_mod _ _
  rw [e, Nat.div_add_mod] at g
  unfold gd at g
  rw [List.getD_eq_getElem?_getD, List.getD_eq_getElem?_getD, List.getElem?_eq_getElem h1, List.getElem?_eq_getElem h2] at g
  exact g
 have hpa : aN (dL (W : Int) (H : Int)) = aE (W : Int) (H : Int) := rfl
 rw [hfl, hpa] at this
 rw [hall] at r1
 have r1 : eo ⟨dL (W : Int) (H : Int), [], []⟩ (iJ P W H n) (aE (W : Int) (H : Int)) 0 (jd (dL (W : Int) (H : Int))) = some P := r1
 simp only [r1] at this
 exact this
end Go.aa
namespace Go.aa
open Go.ag Go.Sl
def Y4 (x : Int) (d i : Nat) : List Int := (List.range i).map fun j => x / 2 ^ (d - 1 - j) % 2
def kA (kind : Int) (B A : List Int) (back i : Nat) : List Int := uc kind B A back i ++ B.drop i
theorem T7 (kind : Int) (B A : List Int) (back : Nat) : kA kind B A back 0 = B := by simp [kA, uc]
theorem Kx (kind : Int) (B A : List Int) (back : Nat) : kA kind B A back B.length = kq kind B A back := by simp [kA, kq]
theorem Rr {kind : Int} {B A : List Int} {back i : Nat} (h : i < B.length) : (kA kind B A back i).getD i 0 = B.getD i 0 := by
  unfold kA
  rw [List.getD_eq_getElem?_getD, List.getElem?_append_right (by rw [nj]; omega), nj, Nat.sub_self, List.getElem?_drop, Nat.add_zero, ← List.getD_eq_getElem?_getD]
theorem Lw {kind : Int} {B A : List Int} {back i : Nat} (h : i < B.length) : (kA kind B A back i).set i (mL kind B A back i) = kA kind B A back (i + 1) := by
  unfold kA
  rw [List.set_append, if_neg (by rw [nj]; omega), nj, Nat.sub_self, List.drop_eq_getElem_cons h, List.set_cons_zero, SX, List.append_assoc]
  rfl
end Go.aa
namespace Go.aa
open Go.ag Go.Sl
def tB (d : Nat) (key n : Int) : Int := if d = 8 then key else ((key.toNat ||| (n * 2 ^ d % 256).toNat : Nat) : Int)
end Go.aa
namespace Go.Proofs.YtmaiakpjgomnpaaGreat
open Go.Sl
end Go.Proofs.YtmaiakpjgomnpaaGreat
namespace Go.Proofs.YtmaiakpjgomnpaaGreat
open Go.Sl
end Go.Proofs.YtmaiakpjgomnpaaGreat
namespace Go.Proofs.YtmaiakpjgomnpaaGreat
open Go.Sl
end Go.Proofs.YtmaiakpjgomnpaaGreat
namespace Go.Proofs.YtmaiakpjgomnpaaGreat
open Go.Sl 
attribute [local irreducible] ag.an aa.Y4 aa.U2 aa.kA aa.lz aa.gz aa.UP ag.Yg
theorem PT {kind a : Int} {L1 L2 : List Int} {back i : Nat} (h : a = L1.getD i 0) : (a - aa.lz kind (aa.gz L1 i back) (L2.getD i 0) (aa.gz L2 i back)) % 256 = aa.mL kind L1 L2 back i := by
 rw [h]
 unfold aa.mL
 rfl
set_option maxHeartbeats 4000000 in
theorem XU (kind : Int) (p1 : Option Addr) (c1 n1 : Nat) (L1 : List Int) (R1 : ad) (hR1 : ∀ w0 h, R1 w0 h → aF U5 p1 n1 L1 w0 h) (hn1 : L1.length = n1) (hB1 : ag.an L1) (p2 : Option Addr) (c2 n2 : Nat) (L2 : List Int) (R2 : ad) (hR2 : ∀ w0 h, R2 w0 h → aF U5 p2 n2 L2 w0 h) (hn2 : L2.length = n2) (hB2 : ag.an L2) (back : Nat) (hbk : 1 ≤ back ∧ back ≤ 8) (h2 : n2 = 0 ∨ n2 = n1) (hk : 0 ≤ kind ∧ kind ≤ 4) (hn1s : n1 < 500000000) : az Tryz.prog 25 [.int .i64 kind, .slice p1 n1 c1, .slice p2 n2 c2, .int .i64 (back : Int)] [R1, R2] (aG fun v G => ∃ q cq, v = .tuple #[.slice q n1 cq, .bool true] ∧ G = [Row U5 q n1 cq (aa.kq kind L1 L2 back), R1, R2]) := by
 refine au [(0, _), (1, _), (2, _), (3, _)] Tryz.func25 rfl Tryz.ntmps25 rfl rfl ?_
 intro w0 F
 refine (me) ?_
 refine jF (fun (u : Unit) => [(0, .int .i64 kind), (1, .slice p1 n1 c1), (2, .slice p2 n2 c2), (3, .int .i64 (back : Int))]) (fun (u : Unit) => R1 :: R2 :: F) (fun (u : Unit) => True) ?_ ?_
 ·rcases (Nat.eq_zero_or_pos n2) with hz | hz
  ·refine rL TT 3 rfl ?_
   refine (QE) ?_
   refine (Q6) ?_
   refine (Q0) ?_
   refine (Qr) ?_
   refine (Qi) ?_
   refine (Q0) ?_
   refine (QE) ?_
   refine (Qi) ?_
   refine (Q0) ?_
   refine (Qr) ?_
   refine (Q8) ?_
   refine (Q0) ?_
   refine (Qr) ?_
   refine (QG) ?_
   refine j1 (()) ?_ (eG ln) (sub (aO .nil) ak)
   exact trivial
  ·refine rL TT 3 rfl ?_
   refine (QE) ?_
   refine (Q6) ?_
   refine (Q0) ?_
   refine (Qr) ?_
   refine (Qi) ?_
   refine (Q0) ?_
   refine (QE) ?_
   refine (Qi) ?_
   refine (Q0) ?_
   refine (Qr) ?_
   refine (Q8) ?_
   refine (Q0) ?_
   refine (Qu) ?_
   refine (Q3) ?_
   refine (Q0) ?_
   refine (vX) ?_
   refine (Q1) ?_
   refine j1 (()) ?_ (eG ln) (sub (aO .nil) ak)
   exact trivial
 ·intro u
  rintro -
  refine (Q5) ?_
  refine SK (Row (U5) none 0 0 []) (Row.nil _ _ _)<|eh (c := (U5)) V.bN V.z5 rfl rfl rfl rfl cW (by exact bM hR1 dm) (by omega) rfl ?_
  intro p39 c39
  refine (Qg) ?_
  rw [List.nil_append, Nat.zero_add, show Row U5 p39 n1 c39 L1 = Row U5 p39 n1 c39 (aa.kA kind L1 L2 back 0) from by rw [aa.T7]]
  refine cB (fun (i : Nat) => [(0, .int .i64 kind), (1, .slice p1 n1 c1), (2, .slice p2 n2 c2), (3, .int .i64 (back : Int)), (10, .slice p39 n1 c39), (11, .int .i64 (i : Int))]) (fun (i : Nat) => Row U5 p39 n1 c39 (aa.kA kind L1 L2 back i) :: R1 :: R2 :: F) (fun (i : Nat) => i ≤ n1) (fun (i : Nat) => n1 - i) (i1 (0) ?_ (jt (bB ln)) (sub (fp .nil) ak)) ?_
  ·exact Nat.zero_le _
  intro i
  rintro hi
  refine rL TT 9 rfl ?_
  refine aC rfl (fun h43 => ?_) (fun h43 => ?_)
  ·refine (Q4) ?_
   refine wN [pz 0 [] [10], pz 0 [] [11], pz 0 [] [10], pz 0 [] [11], pz 12 [2, 3] [], pz 28 [4] [], pz 0 [] [0], pz 0 [] [1], pz 0 [] [2], pz 0 [] [11], pz 0 [] [3], pz 1984 [6, 7, 8, 9, 10] [], pz 4092 [5, 11] [], pz 8191 [0, 1] [], pz 16383 [13, 12] []] [⟨fun y => Row U5 p39 n1 c39 (aa.kA kind L1 L2 back i), none, some 14, [4, 5, 13]⟩, ⟨fun y => R1, none, none, [11]⟩, ⟨fun y => R2, none, none, [11]⟩, ⟨fun y => Row U5 p39 n1 c39 ((aa.kA kind L1 L2 back i).set (i : Int).toNat (aa.mL kind L1 L2 back i)), some 14, none, []⟩] F V.mixed ?_
   iterate 4 refine nM ?_
   refine (DG)<|(Ic) ?_
   iterate 5 refine nM ?_
   refine nE (fun y FF hA => aV (Post := [R1, R2]) (P0 kind p1 c1 n1 L1 R1 hR1 hn1 hB1 p2 c2 n2 L2 R2 hR2 hn2 hB2 i back (by omega) hbk.2 (by omega) (by omega)) V.Zk rfl (aO .nil) (fun v G h => by rcases h with ⟨rfl, rfl⟩; exact ⟨rfl, .refl _⟩))<|nV (fun y hA L => kV (r := (aa.mL kind L1 L2 back i)) rfl rfl ((aa.fm _).trans (PT (aa.Rr (by omega)))))<|(DG) ?_
   refine nE (fun y FF hA => dD (lQ (c := (U5)) (_) V.s5 rfl rfl rfl (by exact fI) (by omega) (by omega) rfl rfl) ⟨rfl, .refl _⟩)<|(Qb) ?_
   intro y hA
   clear hA
   show kr _ _ _ _ (R1 :: R2 :: Row U5 p39 n1 c39 ((aa.kA kind L1 L2 back i).set (i : Int).toNat (aa.mL kind L1 L2 back i)) :: F)
   refine jh<|bj<|(Qo)<|(Q7)<|(Ap)<|(pc) ?_
   refine dh ?_
   rw [show List.set (aa.kA kind L1 L2 back i) ((i : Int)).toNat (aa.mL kind L1 L2 back i) = aa.kA kind L1 L2 back (i + 1) from aa.Lw (by omega)]
   exact j1 (i + 1) ⟨by omega, by omega⟩ (jt (bB ln)) (sub (.cons bg (aO .nil)) ak)
  ·refine (Qc) ?_
   obtain rfl : i = n1 := by omega
   rw [show aa.kA kind L1 L2 back i = aa.kq kind L1 L2 back from hn1 ▸ aa.Kx kind L1 L2 back]
   refine (Qs) ?_
   exact af (ez rfl rfl) ⟨_, _, rfl, rfl⟩ (sub (fp .nil) ak)
end Go.Proofs.YtmaiakpjgomnpaaGreat
namespace Go.Proofs.YtmaiakpjgomnpaaGreat
open Go.Sl
theorem V.oS : ay Tryz.prog 25 = true := by kernel_rfl
end Go.Proofs.YtmaiakpjgomnpaaGreat
namespace Go.Proofs.YtmaiakpjgomnpaaGreat
open Go.Sl 
attribute [local irreducible] ag.an aa.cP aa.aX aa.e9 aa.cZ aa.ku aa.jJ aa.gF aa.gP aa.PB aa.PU aa.kq aa.SU aa.IZ aa.tB aa.FQ aa.UP
abbrev vf (h : List Int) (b : Nat) (ms : List Ce) (q : Option Addr) (c : Nat) (z : List Int) : List Ce := Ce.mk aa.bQ (some ⟨b, 0, none⟩) 13 h :: (ms ++ [Ce.mk aa.ba q c z, Ce.mk aa.a8 none 0 []])
theorem GA (a b c : Ce) : Instr.fill (fun i => some (i * aR.sz, aR.sz)) ((List.replicate 3 [Value.string ByteArray.empty, .slice none 0 0]).flatten.toArray) [(0, .agg (aR.e a).toArray), (1, .agg (aR.e b).toArray), (2, .agg (aR.e c).toArray)] = some (([a, b, c] : List Ce).flatMap aR.e).toArray := by
  simp [Instr.fill, Value.cells, List.replicate]
theorem xj {h : List Int} {b : Nat} {ms : List Ce} {mid : List aa.Ch} {q : Option Addr} {c : Nat} {z : List Int} (hm : ms.map Ce.ch = mid) : (vf h b ms q c z).map Ce.ch = aa.iR h mid z := by
  simp only [vf, List.map_cons, List.map_append, hm]
  rfl
theorem Nl {h : List Int} {b : Nat} {ms : List Ce} {mid : List aa.Ch} {q : Option Addr} {c : Nat} {z : List Int} (o : aa.kQ h mid z) (hm : ms.map Ce.ch = mid) : ∀ x ∈ vf h b ms q c z, aa.jJ x.ch := fun x hx => by
  have k := o.ok
  rw [← xj (b := b) (q := q) (c := c) hm] at k
  exact k _ (List.mem_map.2 ⟨x, hx, rfl⟩)
theorem PH {h : List Int} {b : Nat} {ms : List Ce} {q : Option Addr} {c c1 : Nat} {z : List Int} (h13 : h.length = 13) {w0 : World} {hp : Hp} (hh : bW w0 [Row U5 (some ⟨b, 0, none⟩) 13 c1 h, DK ms, Row U5 q z.length c z] hp) : DK (vf h b ms q c z) w0 hp := by
  obtain ⟨h1, h2, _, l1, l2, a, h3, h4, _, l3, l4, d, h5, h6, _, l5, l6, e, _⟩ := hh
  intro x hx
  rcases List.mem_cons.1 hx with rfl | hx
  · have := (Row.Ep a).mono l1
    rw [← h13] at this
    exact this
  · rcases List.mem_append.1 hx with hx | hx
    · exact (d x hx).mono (Hp.le_trans l3 l2)
    · simp only [List.mem_cons, List.not_mem_nil, or_false] at hx
      rcases hx with rfl | rfl
      · exact (Row.Ep e).mono (Hp.le_trans l5 (Hp.le_trans l4 l2))
      · exact ⟨rfl, .inl rfl⟩
end Go.Proofs.YtmaiakpjgomnpaaGreat
namespace Go.aa
open Go.ag Go.Sl
def fH (P : List Int) (W : Nat) (p : Ps) (y x k : Nat) : List Int := gX P W p y x ++ two ((eH P (dY W p y x)).take k)
theorem Sm (P : List Int) (W : Nat) (p : Ps) (y x : Nat) : fH P W p y x 0 = gX P W p y x := by simp [fH, two]
theorem lM (P : List Int) (q : Nat) : (eH P q).length = 4 := rfl
theorem PV (P : List Int) (W : Nat) (p : Ps) (y x : Nat) {k : Nat} (hk : k < 4) : fH P W p y x k ++ [(eH P (dY W p y x)).getD k 0 / 256, (eH P (dY W p y x)).getD k 0 % 256] = fH P W p y x (k + 1) := by
  unfold fH
  rw [ab.gW (by rw [lM]; exact hk), z8, List.append_assoc]
  rfl
theorem Ng (P : List Int) (W : Nat) (p : Ps) (y x : Nat) : fH P W p y x 4 = gX P W p y (x + 1) := by
  unfold fH gX
  rw [wP, z8, List.take_of_length_le (by rw [lM]; exact Nat.le_refl _)]
theorem FY (P : List Int) (W : Nat) (p : Ps) (y x : Nat) {k : Nat} (hk : k ≤ 4) : (fH P W p y x k).length = 8 * x + 2 * k := by
  unfold fH
  rw [List.length_append, vF, qX, List.length_take, lM]; omega
theorem Az (P : List Int) (W : Nat) (p : Ps) (y : Nat) : gX P W p y 0 = [] := rfl
theorem KY {P : List Int} {W : Nat} {p : Ps} {y x : Nat} (h : 4 * dY W p y x + 4 ≤ P.length) (h0 : 0 ≤ (p.y + y * p.dy) * (W : Int) + (p.x + x * p.dx)) : EZ (W : Int) P (p.x + x * p.dx) (p.y + y * p.dy) = eH P (dY W p y x) := by
  have e : (4 * ((p.y + y * p.dy) * (W : Int) + (p.x + x * p.dx))).toNat = 4 * dY W p y x := by unfold dY; omega
  unfold EZ
  rw [e]
  generalize dY W p y x = q at h
  refine List.ext_getElem (by rw [List.length_take, List.length_drop, lM]; omega) (fun i h1 h2 => ?_)
  rw [lM] at h2
  rw [List.getElem_take, List.getElem_drop]
  have hg : ∀ j (hj : j < P.length), P[j] = P.getD j 0 := fun j hj => by rw [List.getD_eq_getElem?_getD, List.getElem?_eq_getElem hj]; rfl
  rw [hg]
  have : i = 0 ∨ i = 1 ∨ i = 2 ∨ i = 3 := by omega
  rcases this with rfl | rfl | rfl | rfl <;> rfl
theorem TG {P : List Int} (h : jA P) (q k : Nat) : 0 ≤ (eH P q).getD k 0 ∧ (eH P q).getD k 0 < 65536 := by
  refine jA.get (l := eH P q) (fun x hx => ?_) k
  simp only [eH, List.mem_cons, List.not_mem_nil, or_false] at hx
  rcases hx with rfl | rfl | rfl | rfl <;> exact h.get _
def iw (P : List Int) (W : Nat) (n : Int) (A : List Int) (p : Ps) (y : Nat) : List Int := A ++ jk P W n p y
theorem UB (P : List Int) (W : Nat) (n : Int) (A : List Int) (p : Ps) : iw P W n A p 0 = A := by simp [iw, jk]
theorem JL (P : List Int) (W : Nat) (n : Int) (A : List Int) (p : Ps) (y : Nat) : iw P W n A p y ++ [k5 n y] ++ kq (k5 n y) (fV P W p y) (fC P W p y) 8 = iw P W n A p (y + 1) := by
  unfold iw
  rw [jk]
  simp
theorem FM {P : List Int} {W : Nat} {n : Int} {l : List Ps} {i : Nat} {p : Ps} (hi : i < l.length) (hp : l[i] = p) : iw P W n (bO P W n (l.take i)) p p.h.toNat = bO P W n (l.take (i + 1)) := by
  have : l.take (i + 1) = l.take i ++ [p] := by rw [← hp]; exact (List.take_append_getElem hi).symm
  unfold iw bO
  rw [this]
  simp
theorem LY (P : List Int) (W : Nat) (p : Ps) : ∀ y, (fC P W p y).length = 0 ∨ (fC P W p y).length = 8 * p.w.toNat
  | 0 => .inl rfl
  | y + 1 => .inr (ou P W p y)
theorem KU {P : List Int} (h : jA P) (W : Nat) (p : Ps) : ∀ y, an (fC P W p y)
  | 0 => fun x hx => by cases hx
  | y + 1 => oF h W p y
theorem wT (P : List Int) (W : Nat) (n : Int) (l : List Ps) (i : Nat) : (bO P W n (l.take i)).length ≤ (bO P W n l).length := by
  have : bO P W n l = bO P W n (l.take i) ++ bO P W n (l.drop i) := by
    unfold bO
    rw [← List.flatMap_append, List.take_append_drop]
  rw [this, List.length_append]; omega
theorem M1 (P : List Int) (W : Nat) (n : Int) (p : Ps) {y h : Nat} (hy : y ≤ h) : (jk P W n p y).length ≤ (jk P W n p h).length := by
  rw [lS, lS]
  exact Nat.mul_le_mul_right _ hy
theorem CY {P : List Int} {W H : Nat} (s : Sz P W H) {n : Int} {i y : Nat} {p : Ps} (hi : i < (aE (W : Int) (H : Int)).length) (hp : (aE (W : Int) (H : Int))[i] = p) (hy : y ≤ p.h.toNat) : (iw P W n (bO P W n ((aE (W : Int) (H : Int)).take i)) p y).length ≤ 132100 := by
  have h1 := M1 P W n p hy
  have h2 := wT P W n (aE (W : Int) (H : Int)) (i + 1)
  have h3 := oC s n
  have h4 := mG s.w s.h s.wh
  rw [← FM hi hp] at h2
  unfold iw at h2 ⊢
  unfold iJ at h3
  rw [List.length_append] at h2 ⊢
  omega
theorem J0 {P : List Int} {W H : Nat} (s : Sz P W H) (n : Int) (i : Nat) : (bO P W n ((aE (W : Int) (H : Int)).take i)).length ≤ 132100 := by
  have h2 := wT P W n (aE (W : Int) (H : Int)) i
  have h3 := oC s n
  have h4 := mG s.w s.h s.wh
  unfold iJ at h3
  omega
theorem Ug {W H : Nat} {P : List Int} (s : Sz P W H) {i : Nat} (hi : i < (aE (W : Int) (H : Int)).length) : fS (aE (W : Int) (H : Int))[i] (W : Int) (H : Int) := mN (by have := s.w; omega) (by have := s.h; omega) _ (List.getElem_mem hi)
theorem Cm {P : List Int} {W H : Nat} (s : Sz P W H) (n : Int) : ku (aX (iR (lB (W : Int) (H : Int)) [] (cP (bO P W n (aE (W : Int) (H : Int)))))) (⟨(W : Int), (H : Int), P⟩, 0) := De s n
theorem SN {P : List Int} {W H : Nat} (s : Sz P W H) (n : Int) : kQ (lB (W : Int) (H : Int)) [] (cP (bO P W n (aE (W : Int) (H : Int)))) := Ir s n
end Go.aa
namespace Go.Proofs.YtmaiakpjgomnpaaGreat
open Go.Sl
theorem V.YS : ay Tryz.prog 30 = true := by kernel_rfl
end Go.Proofs.YtmaiakpjgomnpaaGreat
namespace Go.Proofs.YtmaiakpjgomnpaaGreat
open Go.Sl 
attribute [local irreducible] ag.an aa.cP aa.aX aa.e9 aa.cZ aa.ku aa.jJ aa.kq aa.iw aa.bO aa.fH aa.gX aa.fV aa.fC aa.k5 aa.eH aa.dY aa.aE aa.iq aa.aT aa.jA aa.fS
set_option maxHeartbeats 8000000 in
theorem LR (w h : Int) (q : Option Addr) (c : Nat) (P : List Int) (kd : Int) (hkd : 0 ≤ kd ∧ kd < 256) (hcap : P.length ≤ c) (hU : aa.jA P) : az Tryz.prog 7 [.agg #[.int .i64 w, .int .i64 h, .slice q P.length c], .int .u8 kd] [aF (aD 62 .u16) q P.length P] (aG fun v G => v = .bool true ∧ G = [aF (aD 62 .u16) q P.length P]) := by
 refine au [(0, _), (1, _)] Tryz.func7 rfl Tryz.ntmps7 rfl rfl ?_
 intro w0 F
 refine (rF) ?_
 intro b2
 refine (Q1) ?_
 refine aj (JT) V.oZ  rfl .nil rfl ?_
 rintro _ _ ⟨rfl, rfl⟩
 refine (Q1) ?_
 rcases (ab.RH (P.length ≤ 6000) (aa.aT w h = 0 ∧ (P.length : Int) = 4 * w * h)) with ⟨hl, hm⟩ | ⟨hl, hm⟩ | hl
 ·refine (Q4)<|(DS)<|(Pz)<|(Qr)<|(QY)<|(rB)<|(Q0) ?_
  refine aj (oy w h q P.length c true (decide_eq_true hm).symm) V.nf  rfl .nil rfl ?_
  rintro _ _ ⟨rfl, rfl⟩
  refine (Qk) ?_
  obtain ⟨W, H, rfl, rfl, hs⟩ := aa.Tj hm.1 hm.2 hU
  have hn := aa.Nb hs
  have hw := hs.w
  have hh := hs.h
  have hsz := hm.1
  have hp7 : (aa.aE (W : Int) (H : Int)).length ≤ 7 := (aa.wa (by omega) (by omega)).2
  refine (Qs)<|(Qf)<|(yK)<|(Qf) ?_
  refine aj (Hb (W : Int) (H : Int) hsz) V.Zj  rfl .nil rfl ?_
  rintro _ _ ⟨pa, ca, rfl, rfl⟩
  refine (Qg)<|(ru) ?_
  rw [show Row U5 none 0 0 [] = Row U5 none (aa.bO P W kd ((aa.aE (W : Int) (H : Int)).take 0)).length 0 (aa.bO P W kd ((aa.aE (W : Int) (H : Int)).take 0)) from by unfold aa.bO; rfl, show ((5 : Nat), Value.slice none 0 0) = (5, .slice none (aa.bO P W kd ((aa.aE (W : Int) (H : Int)).take 0)).length 0) from by unfold aa.bO; rfl]
  refine fN (fun (i : Nat) (pr : Option Addr) (cr : Nat) => [(1, .int .u8 kd), (2, .pointer (some ⟨b2, 0, none⟩)), (5, .slice pr (aa.bO P W kd ((aa.aE (W : Int) (H : Int)).take i)).length cr), (6, .slice pa (aa.aE (W : Int) (H : Int)).length ca), (7, .int .i64 (i : Int))]) (fun (i : Nat) (pr : Option Addr) (cr : Nat) => Row U5 pr (aa.bO P W kd ((aa.aE (W : Int) (H : Int)).take i)).length cr (aa.bO P W kd ((aa.aE (W : Int) (H : Int)).take i)) :: Row jH pa (aa.aE (W : Int) (H : Int)).length ca (aa.aE (W : Int) (H : Int)) :: ai b2 26 [.int .i64 (W : Int), .int .i64 (H : Int), .slice q P.length c] :: aF (aD 62 .u16) q P.length P :: F) (fun (i : Nat) (pr : Option Addr) (cr : Nat) => i ≤ (aa.aE (W : Int) (H : Int)).length) (fun (i : Nat) (pr : Option Addr) (cr : Nat) => (aa.aE (W : Int) (H : Int)).length - i) (i3 (0) (_) (_) ?_ (bB ln) (sub (lZ .nil) ak)) ?_
  ·exact Nat.zero_le _
  intro i pr cr
  rintro hi
  refine rL TT 9 rfl ?_
  refine aC rfl (fun h43 => ?_) (fun h43 => ?_)
  ·refine (Qe) ?_
   obtain ⟨x, hx⟩ : ∃ x, x = jH.g (aa.aE (W : Int) (H : Int)) (i : Int) := ⟨_, rfl⟩
   have hxp : (aa.aE (W : Int) (H : Int))[i] = x := by rw [hx, jH.tb (by omega)]
   have hps : aa.fS x (W : Int) (H : Int) := hxp ▸ aa.Ug hs (by omega)
   have hpo := hps
   unfold aa.fS aa.iF at hpo
   obtain ⟨⟨hx0, hx1, hy0, hy1, hdx, hdy, hw0, hw1, hh0, hh1⟩, hix, hiy⟩ := hpo
   refine (Q5) ?_
   refine oV (xI V.y8 (own dm))<|oV (cY (v := .agg #[.int .i64 x.x, .int .i64 x.y, .int .i64 x.dx, .int .i64 x.dy, .int .i64 x.w, .int .i64 x.h]) (kT (c := jH) V.IV rfl (own dm) (by omega) (by omega) rfl) (by rw [hx]))<|cS V.oW rfl ?_
   intro b8
   refine (VB)<|(Qq)<|(ru) ?_
   rw [show Row U5 none 0 0 [] = Row U5 none (aa.fC P W x 0).length 0 (aa.fC P W x 0) from by unfold aa.fC; rfl, show ((9 : Nat), Value.slice none 0 0) = (9, .slice none (aa.fC P W x 0).length 0) from by unfold aa.fC; rfl, show (aa.bO P W kd ((aa.aE (W : Int) (H : Int)).take i)) = (aa.iw P W kd (aa.bO P W kd ((aa.aE (W : Int) (H : Int)).take i)) x 0) from (aa.UB P W kd _ x).symm]
   refine uv (fun (yr : Nat) (pr : Option Addr) (cr : Nat) (pv : Option Addr) (cv : Nat) => [(1, .int .u8 kd), (2, .pointer (some ⟨b2, 0, none⟩)), (5, .slice pr (aa.iw P W kd (aa.bO P W kd ((aa.aE (W : Int) (H : Int)).take i)) x yr).length cr), (6, .slice pa (aa.aE (W : Int) (H : Int)).length ca), (7, .int .i64 (i : Int)), (8, .pointer (some ⟨b8, 0, none⟩)), (9, .slice pv (aa.fC P W x yr).length cv), (10, .int .i64 (yr : Int))]) (fun (yr : Nat) (pr : Option Addr) (cr : Nat) (pv : Option Addr) (cv : Nat) => Row U5 pr (aa.iw P W kd (aa.bO P W kd ((aa.aE (W : Int) (H : Int)).take i)) x yr).length cr (aa.iw P W kd (aa.bO P W kd ((aa.aE (W : Int) (H : Int)).take i)) x yr) :: Row U5 pv (aa.fC P W x yr).length cv (aa.fC P W x yr) :: ai b8 67 [.int .i64 x.x, .int .i64 x.y, .int .i64 x.dx, .int .i64 x.dy, .int .i64 x.w, .int .i64 x.h] :: Row jH pa (aa.aE (W : Int) (H : Int)).length ca (aa.aE (W : Int) (H : Int)) :: ai b2 26 [.int .i64 (W : Int), .int .i64 (H : Int), .slice q P.length c] :: aF (aD 62 .u16) q P.length P :: F) (fun (yr : Nat) (pr : Option Addr) (cr : Nat) (pv : Option Addr) (cv : Nat) => yr ≤ x.h.toNat) (fun (yr : Nat) (pr : Option Addr) (cr : Nat) (pv : Option Addr) (cv : Nat) => x.h.toNat - yr) (i5 (0) (_) (_) (_) (_) ?_ (gK (bB ln)) (sub (.cons bg (mj .nil)) ak)) ?_
   ·exact Nat.zero_le _
   intro yr pr cr pv cv
   rintro hy
   refine rL TT 5 rfl<|(QN)<|(Qi) ?_
   refine aC rfl (fun h53 => ?_) (fun h53 => ?_)
   ·refine rC TT 16 rfl<|(ru) ?_
    rw [show Row U5 none 0 0 [] = Row U5 none (aa.gX P W x yr 0).length 0 (aa.gX P W x yr 0) from by rw [aa.Az]; rfl, show ((11 : Nat), Value.slice none 0 0) = (11, .slice none (aa.gX P W x yr 0).length 0) from by rw [aa.Az]; rfl]
    refine fN (fun (j : Nat) (pw : Option Addr) (cw : Nat) => [(1, .int .u8 kd), (2, .pointer (some ⟨b2, 0, none⟩)), (5, .slice pr (aa.iw P W kd (aa.bO P W kd ((aa.aE (W : Int) (H : Int)).take i)) x yr).length cr), (6, .slice pa (aa.aE (W : Int) (H : Int)).length ca), (7, .int .i64 (i : Int)), (8, .pointer (some ⟨b8, 0, none⟩)), (9, .slice pv (aa.fC P W x yr).length cv), (10, .int .i64 (yr : Int)), (11, .slice pw (aa.gX P W x yr j).length cw), (12, .int .i64 (j : Int))]) (fun (j : Nat) (pw : Option Addr) (cw : Nat) => Row U5 pw (aa.gX P W x yr j).length cw (aa.gX P W x yr j) :: Row U5 pr (aa.iw P W kd (aa.bO P W kd ((aa.aE (W : Int) (H : Int)).take i)) x yr).length cr (aa.iw P W kd (aa.bO P W kd ((aa.aE (W : Int) (H : Int)).take i)) x yr) :: Row U5 pv (aa.fC P W x yr).length cv (aa.fC P W x yr) :: ai b8 67 [.int .i64 x.x, .int .i64 x.y, .int .i64 x.dx, .int .i64 x.dy, .int .i64 x.w, .int .i64 x.h] :: Row jH pa (aa.aE (W : Int) (H : Int)).length ca (aa.aE (W : Int) (H : Int)) :: ai b2 26 [.int .i64 (W : Int), .int .i64 (H : Int), .slice q P.length c] :: aF (aD 62 .u16) q P.length P :: F) (fun (j : Nat) (pw : Option Addr) (cw : Nat) => j ≤ x.w.toNat) (fun (j : Nat) (pw : Option Addr) (cw : Nat) => x.w.toNat - j) (i3 (0) (_) (_) ?_ (bB (bB ln)) (sub (aO (mj .nil)) ak)) ?_
    ·exact Nat.zero_le _
    intro j pw cw
    rintro hj
    refine rL TT 5 rfl<|(Qt)<|(Qi) ?_
    refine aC rfl (fun h59 => ?_) (fun h59 => ?_)
    ·refine (Qe) ?_
     have hpl := aa.EW (y := yr) (x := j) hps hs.len (by omega) (by omega)
     have hjx : 0 ≤ (j : Int) * x.dx := by rcases hdx with e | e | e | e <;> rw [e] <;> omega
     have hyy : 0 ≤ (yr : Int) * x.dy := by rcases hdy with e | e | e | e <;> rw [e] <;> omega
     have hjl := hix j (by omega) (by omega)
     have hyl := hiy yr (by omega) (by omega)
     have hxr : 0 ≤ (x.x + ((j : Int) * x.dx)) ∧ (x.x + ((j : Int) * x.dx)) < (W : Int) := ⟨by omega, hjl⟩
     have hyr : 0 ≤ (x.y + ((yr : Int) * x.dy)) ∧ (x.y + ((yr : Int) * x.dy)) < (H : Int) := ⟨by omega, hyl⟩
     refine (Qo) ?_
     refine oV (dv V.fZ rfl Om (vs := [_, _, _]) rfl rfl)<|oV (bd V.TM rfl)<|(Qt)<|(Q6)<|(Qt) ?_
     refine oV (gB (r := (j : Int) * x.dx) rfl rfl wI)<|oV (eA (r := (x.x + ((j : Int) * x.dx))) rfl rfl wI)<|oV (bd V.TC rfl)<|(Qt)<|(Q6)<|(Qt) ?_
     refine oV (gB (r := (yr : Int) * x.dy) rfl rfl wI)<|oV (eA (r := (x.y + ((yr : Int) * x.dy))) rfl rfl wI)<|aj (WQ (W : Int) (H : Int) hsz q P.length c hm.2 hcap P rfl (aF (aD 62 .u16) q P.length P) (fun _ _ hh => hh) (x.x + ((j : Int) * x.dx)) (x.y + ((yr : Int) * x.dy)) hxr hyr) V.YS  rfl (.cons oQ .nil) rfl ?_
     rintro _ _ ⟨rfl, rfl⟩
     rw [aa.KY hpl.2 hpl.1]
     refine (Q7) ?_
     refine oV (cY (v := .agg #[.int .u16 (P.getD (4 * aa.dY W x yr j) 0), .int .u16 (P.getD (4 * aa.dY W x yr j + 1) 0), .int .u16 (P.getD (4 * aa.dY W x yr j + 2) 0), .int .u16 (P.getD (4 * aa.dY W x yr j + 3) 0)]) (dQ rfl rfl) (by unfold aa.eH; rfl))<|oV (dQ rfl rfl)<|(rq) ?_
     intro oZ
     refine (Es)<|(Qn) ?_
     rw [show (aa.gX P W x yr j) = (aa.fH P W x yr j 0) from (aa.Sm P W x yr j).symm]
     refine Tp (A := ai oZ 68 _) (B := ai oZ 68 (CA [] .u16 (aa.eH P (aa.dY W x yr j)) [])) cW (fun h hh => by unfold aa.eH; exact hh) ?_
     refine fN (fun (k : Nat) (pk : Option Addr) (ck : Nat) => [(1, .int .u8 kd), (2, .pointer (some ⟨b2, 0, none⟩)), (5, .slice pr (aa.iw P W kd (aa.bO P W kd ((aa.aE (W : Int) (H : Int)).take i)) x yr).length cr), (6, .slice pa (aa.aE (W : Int) (H : Int)).length ca), (7, .int .i64 (i : Int)), (8, .pointer (some ⟨b8, 0, none⟩)), (9, .slice pv (aa.fC P W x yr).length cv), (10, .int .i64 (yr : Int)), (11, .slice pk (aa.fH P W x yr j k).length ck), (12, .int .i64 (j : Int)), (13, .pointer (some ⟨oZ, 0, none⟩)), (15, .int .i64 (k : Int))]) (fun (k : Nat) (pk : Option Addr) (ck : Nat) => Row U5 pk (aa.fH P W x yr j k).length ck (aa.fH P W x yr j k) :: ai oZ 68 (CA [] .u16 (aa.eH P (aa.dY W x yr j)) []) :: Row U5 pr (aa.iw P W kd (aa.bO P W kd ((aa.aE (W : Int) (H : Int)).take i)) x yr).length cr (aa.iw P W kd (aa.bO P W kd ((aa.aE (W : Int) (H : Int)).take i)) x yr) :: Row U5 pv (aa.fC P W x yr).length cv (aa.fC P W x yr) :: ai b8 67 [.int .i64 x.x, .int .i64 x.y, .int .i64 x.dx, .int .i64 x.dy, .int .i64 x.w, .int .i64 x.h] :: Row jH pa (aa.aE (W : Int) (H : Int)).length ca (aa.aE (W : Int) (H : Int)) :: ai b2 26 [.int .i64 (W : Int), .int .i64 (H : Int), .slice q P.length c] :: aF (aD 62 .u16) q P.length P :: F) (fun (k : Nat) (pk : Option Addr) (ck : Nat) => k ≤ 4) (fun (k : Nat) (pk : Option Addr) (ck : Nat) => 4 - k) (i3 (0) (_) (_) ?_ (gI (bB (bB ln))) (sub (.cons bg (aq (.cons aw (.cons aw (.cons aw (.cons aw (.cons aw (.cons cW .nil)))))))) ak)) ?_
     ·exact Nat.zero_le _
     intro k pk ck
     rintro hk
     refine rL TT 7 rfl ?_
     refine aC rfl (fun h82 => ?_) (fun h82 => ?_)
     ·refine (Q4) ?_
      have hsu := aa.TG hs.u (aa.dY W x yr j) k
      have hkl := aa.FY P W x yr j (k := k) (by omega)
      have hp4 := aa.lM P (aa.dY W x yr j)
      refine jD [pz 0 [] [11], pz 0 [] [15], pz 2 [1] [13], pz 6 [2] [], pz 14 [3] [], pz 30 [4] [], pz 0 [] [15], pz 64 [6] [13], pz 192 [7] [], pz 448 [8] [], pz 1022 [5, 9] [], pz 2047 [0, 10] [], pz 4095 [11] []] [⟨fun y => Row U5 pk (aa.fH P W x yr j k).length ck (aa.fH P W x yr j k), none, some 11, []⟩, ⟨fun y => ai oZ 68 (CA [] .u16 (aa.eH P (aa.dY W x yr j)) []), none, none, [3, 8]⟩, ⟨fun y => Row U5 pr (aa.iw P W kd (aa.bO P W kd ((aa.aE (W : Int) (H : Int)).take i)) x yr).length cr (aa.iw P W kd (aa.bO P W kd ((aa.aE (W : Int) (H : Int)).take i)) x yr), none, none, []⟩, ⟨fun y => Row U5 pv (aa.fC P W x yr).length cv (aa.fC P W x yr), none, none, []⟩, ⟨fun y => ai b8 67 [.int .i64 x.x, .int .i64 x.y, .int .i64 x.dx, .int .i64 x.dy, .int .i64 x.w, .int .i64 x.h], none, none, []⟩, ⟨fun y => Row jH pa (aa.aE (W : Int) (H : Int)).length ca (aa.aE (W : Int) (H : Int)), none, none, []⟩, ⟨fun y => ai b2 26 [.int .i64 (W : Int), .int .i64 (H : Int), .slice q P.length c], none, none, []⟩, ⟨fun y => aF (aD 62 .u16) q P.length P, none, none, []⟩, ⟨fun y => Row (U5) (some ⟨(gZ (ed (y 10))), 0, none⟩) 2 2 [((aa.eH P (aa.dY W x yr j)).getD k 0) / 256, ((aa.eH P (aa.dY W x yr j)).getD k 0) % 256], some 10, none, [11]⟩, ⟨fun y => Row (U5) (ed (y 11)) ((aa.fH P W x yr j k).length + 2) (fx (y 11)) ((aa.fH P W x yr j k) ++ [((aa.eH P (aa.dY W x yr j)).getD k 0) / 256, ((aa.eH P (aa.dY W x yr j)).getD k 0) % 256]), some 11, none, []⟩] F V.mixed (by kernel_rfl) rfl (fun _ => .refl _) (aP _ (aP _ (aP _ (aP _ (aP _ (aP _ (aP _ (aP _ (cT _ rfl (by intro y y2 h; simp only [h 10 (.inl rfl)]) (cT _ rfl (by intro y y2 h; simp only [h 11 (.inl rfl)]) ft)))))))))) ?_
      iterate 2 refine nM ?_
      refine nV (fun y hA L => fQ k rfl V.mV rfl rfl (by omega))<|(V3) ?_
      refine nV (fun y hA L => dX (r := ((aa.eH P (aa.dY W x yr j)).getD k 0) / 256) rfl rfl (by decide) (ag.lX (k := 8) (by decide) rfl))<|nV (fun y hA L => df V.Iu Tryz.underlying5 rfl (wk (by omega) (by omega)))<|nM<|nV (fun y hA L => fQ k rfl V.mV rfl rfl (by omega))<|(V3) ?_
      refine nV (fun y hA L => df V.Iu Tryz.underlying5 rfl (aa.fm _))<|fc (fun y v => .slice (some ⟨gZ (ed v), 0, none⟩) 2 2) (fun y v => True) _ _ (fun y v => [Row (U5) (some ⟨(gZ (ed v)), 0, none⟩) 2 2 [((aa.eH P (aa.dY W x yr j)).getD k 0) / 256, ((aa.eH P (aa.dY W x yr j)).getD k 0) % 256]]) _ (fun y => rfl) (fun y => rfl) (fun y => rfl) (fun y => rfl) (fun y FF hA => zA (sk (U5) ([((aa.eH P (aa.dY W x yr j)).getD k 0) / 256, ((aa.eH P (aa.dY W x yr j)).getD k 0) % 256]) V.bN V.z5 rfl rfl rfl rfl rfl)) (by intros; rfl) (by intros; rfl) (by intros; rfl) (by intro y y2 h; simp only [h 10 (.inl rfl)]) (by intro y y2 h; rfl)<|fc (fun y v => .slice (ed v) ((aa.fH P W x yr j k).length + 2) (fx v)) (fun y v => True) _ _ (fun y v => [Row (U5) (ed v) ((aa.fH P W x yr j k).length + 2) (fx v) ((aa.fH P W x yr j k) ++ [((aa.eH P (aa.dY W x yr j)).getD k 0) / 256, ((aa.eH P (aa.dY W x yr j)).getD k 0) % 256])]) _ (fun y => rfl) (fun y => rfl) (fun y => rfl) (fun y => rfl) (fun y FF hA => qF (mB (c := (U5)) V.bN V.z5 rfl rfl rfl rfl cW (own dm) (by omega)) (.refl _)) (by intros; rfl) (by intros; rfl) (by intros; rfl) (by intro y y2 h; simp only [h 10 (.inr (by decide)), h 11 (.inl rfl)]) (by intro y y2 h; rfl)<|ei _ (fun y => rfl) rfl rfl rfl (fun y hA L => dD (iO rfl) ⟨rfl, rfl⟩) (by intros; rfl) (by intro y y2 h; simp only [h 11 (.inr (by decide))])<|(Qb) ?_
      intro y hA
      clear hA
      refine rN TT 2 rfl<|bE [(1, .int .u8 kd), (2, .pointer (some ⟨b2, 0, none⟩)), (5, .slice pr (aa.iw P W kd (aa.bO P W kd ((aa.aE (W : Int) (H : Int)).take i)) x yr).length cr), (6, .slice pa (aa.aE (W : Int) (H : Int)).length ca), (7, .int .i64 (i : Int)), (8, .pointer (some ⟨b8, 0, none⟩)), (9, .slice pv (aa.fC P W x yr).length cv), (10, .int .i64 (yr : Int)), (11, .slice (ed (y 11)) ((aa.fH P W x yr j k).length + 2) (fx (y 11))), (12, .int .i64 (j : Int)), (13, .pointer (some ⟨oZ, 0, none⟩)), (15, .int .i64 (k : Int))] (.cons (d := 1) rfl (.cons (d := 2) rfl (.cons (d := 5) rfl (.cons (d := 6) rfl (.cons (d := 7) rfl (.cons (d := 8) rfl (.cons (d := 9) rfl (.cons (d := 10) rfl (.cons (d := 11) rfl (.cons (d := 12) rfl (.cons (d := 13) rfl (.cons (d := 15) rfl (.nil _)))))))))))))<|bo (M := ai oZ 68 (CA [] .u16 (aa.eH P (aa.dY W x yr j)) []) :: Row U5 pr (aa.iw P W kd (aa.bO P W kd ((aa.aE (W : Int) (H : Int)).take i)) x yr).length cr (aa.iw P W kd (aa.bO P W kd ((aa.aE (W : Int) (H : Int)).take i)) x yr) :: Row U5 pv (aa.fC P W x yr).length cv (aa.fC P W x yr) :: ai b8 67 [.int .i64 x.x, .int .i64 x.y, .int .i64 x.dx, .int .i64 x.dy, .int .i64 x.w, .int .i64 x.h] :: Row jH pa (aa.aE (W : Int) (H : Int)).length ca (aa.aE (W : Int) (H : Int)) :: ai b2 26 [.int .i64 (W : Int), .int .i64 (H : Int), .slice q P.length c] :: aF (aD 62 .u16) q P.length P :: Row (U5) (some ⟨(gZ (ed (y 10))), 0, none⟩) 2 2 [((aa.eH P (aa.dY W x yr j)).getD k 0) / 256, ((aa.eH P (aa.dY W x yr j)).getD k 0) % 256] :: Row (U5) (ed (y 11)) ((aa.fH P W x yr j k).length + 2) (fx (y 11)) ((aa.fH P W x yr j k) ++ [((aa.eH P (aa.dY W x yr j)).getD k 0) / 256, ((aa.eH P (aa.dY W x yr j)).getD k 0) % 256]) :: F) (fun _ _ h => h) ?_
      generalize (gZ (ed (y 10))) = WM
      generalize (ed (y 11)) = p96
      generalize (fx (y 11)) = c96
      refine jW TT 5 rfl (by omega) ?_
      have e2 := aa.PV P W x yr j (k := k) (by omega)
      have e3 : (aa.fH P W x yr j k).length + 2 = (aa.fH P W x yr j (k + 1)).length := by rw [← e2, List.length_append]; rfl
      rw [e2, e3]
      exact j3 (k + 1) _ _ ⟨by omega, by omega⟩ (gI (bB (bB ln))) (sub (.cons Sb (aO (mj .nil))) bp)
     ·refine (Eh) ?_
      obtain rfl : k = 4 := by omega
      rw [aa.Ng]
      exact j3 (j + 1) _ _ ⟨by omega, by omega⟩ (bB (bB ln)) (sub (aq (.cons aw (.cons aw (.cons aw (.cons aw (.cons aw (.cons aw .nil))))))) bp)
    ·refine (Qc) ?_
     obtain rfl : j = x.w.toNat := by omega
     rw [show aa.gX P W x yr x.w.toNat = (aa.fV P W x yr) from by unfold aa.fV; rfl]
     have hrl := aa.ou P W x yr
     have hkn := aa.tw kd yr
     have hly := aa.CY hs (n := kd) (y := yr + 1) (by omega) hxp (by omega)
     have hlz := aa.CY hs (n := kd) (y := yr) (by omega) hxp (by omega)
     refine (Q9)<|(QU)<|(ny) ?_
     refine oV (lJ (r := (aa.k5 kd yr)) rfl rfl (by decide) ((oe (by omega)).trans (by unfold aa.k5; rfl)))<|(Qk) ?_
     refine aj (XU (aa.k5 kd yr) pw cw (aa.fV P W x yr).length (aa.fV P W x yr) (Row U5 pw (aa.fV P W x yr).length cw (aa.fV P W x yr)) (fun _ _ hh => hh.rd) rfl (aa.oF hs.u W x yr) pv cv (aa.fC P W x yr).length (aa.fC P W x yr) (Row U5 pv (aa.fC P W x yr).length cv (aa.fC P W x yr)) (fun _ _ hh => hh.rd) rfl (aa.KU hs.u W x yr) 8 (by decide) (by rw [hrl]; exact aa.LY P W x yr) (aa.tw kd yr) (by omega)) V.oS  rfl (aq (.cons aw .nil)) rfl ?_
     rintro _ _ ⟨qd, cq, rfl, rfl⟩
     refine (Qp)<|(nu) ?_
     refine cH (U5) [(aa.k5 kd yr)] V.bN V.z5 rfl rfl rfl rfl rfl rfl ?_
     intro Hm
     refine eh (c := (U5)) V.bN V.z5 rfl rfl rfl rfl ig (own aB) (by omega) rfl ?_
     intro p113 c113
     refine (Q7) ?_
     refine eh (c := (U5)) V.bN V.z5 rfl rfl rfl rfl cW (own dW) (by omega) rfl ?_
     intro p115 c115
     refine gV TT 14 rfl (by omega) ?_
     have e1 : (aa.iw P W kd (aa.bO P W kd ((aa.aE (W : Int) (H : Int)).take i)) x yr).length + 1 + (aa.fV P W x yr).length = (aa.iw P W kd (aa.bO P W kd ((aa.aE (W : Int) (H : Int)).take i)) x (yr + 1)).length := by rw [← aa.JL, List.length_append, List.length_append, aa.qI]; rfl
     rw [aa.JL, e1, show (aa.fV P W x yr) = (aa.fC P W x (yr + 1)) from by unfold aa.fC; rfl]
     exact j5 (yr + 1) _ _ _ _ ⟨by omega, by omega⟩ (gK (bB ln)) (sub (aq (.cons bg (.cons c9 (.cons c9 (.cons c9 (.cons c9 .nil)))))) mw)
   ·refine (Eh) ?_
    obtain rfl : yr = x.h.toNat := by omega
    rw [aa.FM (by omega) hxp]
    exact j3 (i + 1) _ _ ⟨by omega, by omega⟩ (bB ln) (sub (aq (.cons bg (.cons bg (.cons bg .nil)))) fP)
  ·refine (Qc) ?_
   obtain rfl : i = (aa.aE (W : Int) (H : Int)).length := by omega
   rw [List.take_length]
   have hal := aa.J0 hs kd (aa.aE (W : Int) (H : Int)).length
   rw [List.take_length] at hal
   have hfg := aa.SN hs kd
   have hsi := hfg.size
   refine (Q9)<|(QN)<|(Wt)<|(nu)<|(AS)<|(QN)<|(vx)<|(yK)<|(QN)<|(U8)<|(nu)<|(yK)<|(QN)<|(vx) ?_
   refine wQ (T := 5) (k := .u8) (aa.lB (W : Int) (H : Int)) V.bN V.z5 rfl rfl rfl rfl ?_
   intro b131
   refine (Q8) ?_
   refine gr (fun w hi => eS hi (show Row U5 pr (aa.bO P W kd (aa.aE (W : Int) (H : Int))).length cr (aa.bO P W kd (aa.aE (W : Int) (H : Int))) ∈ _ by exact dm)) (fun hcr => ?_)
   refine iT (DK []) (Ab _ _ _ _)<|(Q9) ?_
   refine oV (cn V.Cl V.AX rfl (cs := [_, _]) rfl)<|(Q7) ?_
   refine aj (zZ pr cr (aa.bO P W kd (aa.aE (W : Int) (H : Int))) (Row U5 pr (aa.bO P W kd (aa.aE (W : Int) (H : Int))).length cr (aa.bO P W kd (aa.aE (W : Int) (H : Int)))) (fun w0 h hh => ⟨hh.1, hh.2.rd⟩) (by omega) (aa.rX _ _ _ _) hcr) V.I7  rfl (.cons bg .nil) rfl ?_
   rintro _ _ ⟨qz, cz, rfl, rfl⟩
   iterate 2 refine oV (cn V.Cl V.AX rfl (cs := [_, _]) rfl) ?_
   refine cH (aR) (vf (aa.lB (W : Int) (H : Int)) b131 [] qz cz (aa.cP (aa.bO P W kd (aa.aE (W : Int) (H : Int))))) V.om V.AX rfl rfl rfl (GA (Ce.mk aa.bQ (some ⟨b131, 0, none⟩) 13 (aa.lB (W : Int) (H : Int))) (Ce.mk aa.ba qz cz (aa.cP (aa.bO P W kd (aa.aE (W : Int) (H : Int))))) (Ce.mk aa.a8 none 0 [])) rfl rfl ?_
   intro b139
   refine Jw (aM (A := DK (vf (aa.lB (W : Int) (H : Int)) b131 [] qz cz (aa.cP (aa.bO P W kd (aa.aE (W : Int) (H : Int)))))) (.cons ig (.cons c9 (.cons aw .nil))) ak (fun w0 h hh => PH rfl hh))<|aj (Eg (some ⟨b139, 0, none⟩) 3 (vf (aa.lB (W : Int) (H : Int)) b131 [] qz cz (aa.cP (aa.bO P W kd (aa.aE (W : Int) (H : Int))))) (Row aR (some ⟨b139, 0, none⟩) 3 3 (vf (aa.lB (W : Int) (H : Int)) b131 [] qz cz (aa.cP (aa.bO P W kd (aa.aE (W : Int) (H : Int)))))) (fun w0 h hh => ⟨hh.1, hh.2.rd⟩) (show 3 ≤ 262144 by decide) (Nl hfg rfl) (by rw [xj (mid := []) rfl]; omega)) V.UT  rfl (.cons aw (aq .nil)) rfl ?_
   rintro _ _ ⟨qj, cj, rfl, rfl⟩
   rw [xj (mid := []) rfl]
   refine DR (fun w hi => eS hi (show Row U5 qj (aa.aX (aa.iR (aa.lB (W : Int) (H : Int)) [] (aa.cP (aa.bO P W kd (aa.aE (W : Int) (H : Int)))))).length cj (aa.aX (aa.iR (aa.lB (W : Int) (H : Int)) [] (aa.cP (aa.bO P W kd (aa.aE (W : Int) (H : Int)))))) ∈ _ by exact aB)) (fun hcj => ?_)
   refine (Qg) ?_
   refine aj (rQ qj cj (aa.aX (aa.iR (aa.lB (W : Int) (H : Int)) [] (aa.cP (aa.bO P W kd (aa.aE (W : Int) (H : Int)))))) (Row U5 qj (aa.aX (aa.iR (aa.lB (W : Int) (H : Int)) [] (aa.cP (aa.bO P W kd (aa.aE (W : Int) (H : Int)))))).length cj (aa.aX (aa.iR (aa.lB (W : Int) (H : Int)) [] (aa.cP (aa.bO P W kd (aa.aE (W : Int) (H : Int))))))) (fun w0 h hh => ⟨hh.1, hh.2.rd⟩) (by omega) hfg.pS hcj (⟨(W : Int), (H : Int), P⟩, 0) (aa.Cm hs kd)) V.PW  rfl (aq .nil) rfl ?_
   rintro _ _ ⟨qd, nd, cd, rfl, hnd, hcd, rfl⟩
   refine (Qi)<|(vp) ?_
   intro sV
   refine (Df)<|(Q1) ?_
   refine oV (cQ (dE rfl rfl) rfl)<|(QY)<|(rB)<|(Q0) ?_
   refine oV (dv V.fZ rfl DL (vs := [_, _, _]) rfl rfl)<|(Q0) ?_
   refine aj (Ef (W : Int) (H : Int) qd nd cd P hnd (Row (aD 62 .u16) qd nd cd P) (fun w0 h hh => ⟨hh.1, hh.2.rd⟩) (W : Int) (H : Int) q P.length c P rfl (aF (aD 62 .u16) q P.length P) (fun _ _ hh => hh) (by rw [← hnd]; show P.length ≤ _; omega) true (decide_eq_true (by unfold aa.iq; rw [show (nd : Int) = (P.length : Int) from by rw [← hnd]]; exact ⟨hm, hm, rfl, rfl, rfl⟩)).symm) V.MN  rfl (.cons aw (.cons Jk .nil)) rfl ?_
   rintro _ _ ⟨rfl, rfl⟩
   refine (Q3) ?_
   exact af (av rfl) ⟨rfl, rfl⟩ (sub (.cons aw .nil) Is)
 ·refine (Q4)<|(DS)<|(Pz)<|(Qr)<|(QY)<|(rB)<|(Q0) ?_
  refine aj (oy w h q P.length c false (decide_eq_false hm).symm) V.nf  rfl .nil rfl ?_
  rintro _ _ ⟨rfl, rfl⟩
  refine (QG) ?_
  exact af (av rfl) ⟨rfl, rfl⟩ (sub (.cons aw .nil) bp)
 ·refine (Q4)<|(DS)<|(Pz)<|(Qu)<|(QI) ?_
  exact af (av rfl) ⟨rfl, rfl⟩ (sub (.cons aw .nil) bp)
end Go.Proofs.YtmaiakpjgomnpaaGreat

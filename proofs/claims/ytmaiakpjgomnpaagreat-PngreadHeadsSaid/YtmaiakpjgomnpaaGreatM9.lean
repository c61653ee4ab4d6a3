/- Walks of functions that the law reaches, and what they lean on; no conditions. -/
import Derived.Test.YtmaiakpjgomnpaaGreatM1
import Derived.KernelRfl
import Derived.Test.YtmaiakpjgomnpaaGreatM8
import Derived.Test.YtmaiakpjgomnpaaGreatM4
import Derived.Test.YtmaiakpjgomnpaaGreatM2
set_option linter.unusedVariables false
set_option linter.unusedSimpArgs false
set_option maxRecDepth 100000
namespace Go.Proofs.YtmaiakpjgomnpaaGreat
open Go.Sl 
theorem bb : dC Tryz.prog ⟨[22, 140], [(35, 4, 4), (88, 1, 1), (90, 0, 0), (90, 3, 7)]⟩ = true := by kernel_rfl
attribute [local irreducible] ak.az aa.bS aa.c4 aa.deep aa.parts HW aa.bH aa.gC aa.gO aa.fz aa.l5 aa.k6 aa.gw aa.fh aa.gT aa.mq aa.want aa.bB aa.lO aa.nJ aa.nQ aa.j6 aL.nU aa.cm aa.bC aa.bZ aa.cD aa.dv aa.eY aa.jw aa.jJ aa.dr aa.dS aa.cut aa.fJ aa.wB
theorem Gq (h : aa.Hd) (bf : Nat) (pp : Option Addr) (pl : List Int) (cp : Nat) (pt : Option Addr) (tr : List Int) (ct : Nat) (pd : Option Addr) (nd cd : Nat) (pk : Option Addr) (ck : Nat) (R : ab) (hP : ∀ w0 h, R w0 h → aS U5 pp pl.length pl w0 h) (hT : ∀ w0 h, R w0 h → aS U5 pt tr.length tr w0 h) (hcp : pl.length ≤ cp) (hB : ak.az pl) (hBt : ak.az tr) (hpl : pl.length < 500000000) (htl : tr.length < 500000000) (Rk : ab) (hRk : ∀ w0 h_, Rk w0 h_ → aS (aW 3 .i64) pk (aa.bH h tr).length (aa.bH h tr) w0 h_) (hf : aa.gC ⟨h, pl, tr⟩) (hs : aa.bS h.w h.h = 0) (q : Option Addr) (n c : Nat) (hn : (n : Int) = 4 * h.w * h.h) (hcap : n ≤ c) (dG : List Int) (hpx0 : dG.length = n) (p : aa.Ps) (hp : aa.k6 p h.w h.h) (Dt : List Int) (hDB : ak.az Dt) (hDl : Dt.length < 500000000) (nr : Nat) (hnr : (nr : Int) = aa.fh p.w (aa.parts h.ay * h.dep)) (back : Nat) (hback : (back : Int) = max 1 ((aa.parts h.ay * h.dep) / 8)) (at0 : Nat) (hat : at0 + p.h.toNat * (1 + nr) ≤ Dt.length) (pb : Option Addr) (cb : Nat) (Rb : ab) (hRb : ∀ w0 h, Rb w0 h → aS U5 pb (Dt.length - at0) (Dt.drop at0) w0 h) (hcb : Dt.length - at0 ≤ cb) (hr : aa.fz ⟨h, pl, tr⟩ Dt nr back p p.h.toNat 0 at0 [] dG = none) : aK Tryz.prog 86 [.pointer (some ⟨bf, 0, none⟩), .agg #[.int .i64 h.w, .int .i64 h.h, .slice q n c], .agg #[.int .i64 p.x, .int .i64 p.y, .int .i64 p.dx, .int .i64 p.dy, .int .i64 p.w, .int .i64 p.h], .slice pb (Dt.length - at0) cb] [ao bf 90 [.int .i64 h.w, .int .i64 h.h, .int .i64 h.dep, .int .i64 h.ay, .bool h.cC, .slice pp pl.length cp, .slice pt tr.length ct, .slice pd nd cd, .slice pk (aa.bH h tr).length ck], Row (aW 62 .u16) q n c dG, Rk, Rb, R] (aR fun v G => v = .tuple #[.slice none 0 0, .bool false] ∧ ∃ P, P.length = n ∧ G = [ao bf 90 [.int .i64 h.w, .int .i64 h.h, .int .i64 h.dep, .int .i64 h.ay, .bool h.cC, .slice pp pl.length cp, .slice pt tr.length ct, .slice pd nd cd, .slice pk (aa.bH h tr).length ck], Row (aW 62 .u16) q n c P, Rk, Rb, R]) := by
 refine (BA h bf pp pl cp pt tr ct pd nd cd pk ck R hP hT hcp hB hBt hpl htl Rk hRk hf hs q n c hn hcap dG hpx0 p hp Dt hDB hDl nr hnr back hback at0 hat pb cb Rb hRb hcb).mono ?_
 rintro e2 G ⟨v, rfl, (⟨_, rfl, P, h1, rfl⟩ | ⟨a, P, z, cz, h, _⟩)⟩
 ·exact ⟨_, rfl, rfl, P, h1, rfl⟩
 ·rw [hr] at h; cases h
theorem Gz (h : aa.Hd) (bf : Nat) (pp : Option Addr) (pl : List Int) (cp : Nat) (pt : Option Addr) (tr : List Int) (ct : Nat) (pd : Option Addr) (nd cd : Nat) (pk : Option Addr) (ck : Nat) (R : ab) (hP : ∀ w0 h, R w0 h → aS U5 pp pl.length pl w0 h) (hT : ∀ w0 h, R w0 h → aS U5 pt tr.length tr w0 h) (hcp : pl.length ≤ cp) (hB : ak.az pl) (hBt : ak.az tr) (hpl : pl.length < 500000000) (htl : tr.length < 500000000) (Rk : ab) (hRk : ∀ w0 h_, Rk w0 h_ → aS (aW 3 .i64) pk (aa.bH h tr).length (aa.bH h tr) w0 h_) (hf : aa.gC ⟨h, pl, tr⟩) (hs : aa.bS h.w h.h = 0) (q : Option Addr) (n c : Nat) (hn : (n : Int) = 4 * h.w * h.h) (hcap : n ≤ c) (dG : List Int) (hpx0 : dG.length = n) (p : aa.Ps) (hp : aa.k6 p h.w h.h) (Dt : List Int) (hDB : ak.az Dt) (hDl : Dt.length < 500000000) (nr : Nat) (hnr : (nr : Int) = aa.fh p.w (aa.parts h.ay * h.dep)) (back : Nat) (hback : (back : Int) = max 1 ((aa.parts h.ay * h.dep) / 8)) (at0 : Nat) (hat : at0 + p.h.toNat * (1 + nr) ≤ Dt.length) (pb : Option Addr) (cb : Nat) (Rb : ab) (hRb : ∀ w0 h, Rb w0 h → aS U5 pb (Dt.length - at0) (Dt.drop at0) w0 h) (hcb : Dt.length - at0 ≤ cb) (a2 : Nat) (P2 : List Int) (hr : aa.fz ⟨h, pl, tr⟩ Dt nr back p p.h.toNat 0 at0 [] dG = some (a2, P2)) : aK Tryz.prog 86 [.pointer (some ⟨bf, 0, none⟩), .agg #[.int .i64 h.w, .int .i64 h.h, .slice q n c], .agg #[.int .i64 p.x, .int .i64 p.y, .int .i64 p.dx, .int .i64 p.dy, .int .i64 p.w, .int .i64 p.h], .slice pb (Dt.length - at0) cb] [ao bf 90 [.int .i64 h.w, .int .i64 h.h, .int .i64 h.dep, .int .i64 h.ay, .bool h.cC, .slice pp pl.length cp, .slice pt tr.length ct, .slice pd nd cd, .slice pk (aa.bH h tr).length ck], Row (aW 62 .u16) q n c dG, Rk, Rb, R] (aR fun v G => ∃ pz cz, P2.length = n ∧ a2 = at0 + p.h.toNat * (1 + nr) ∧ (∀ w0 h, Rb w0 h → aS U5 pz (Dt.length - a2) (Dt.drop a2) w0 h) ∧ Dt.length - a2 ≤ cz ∧ v = .tuple #[.slice pz (Dt.length - a2) cz, .bool true] ∧ G = [ao bf 90 [.int .i64 h.w, .int .i64 h.h, .int .i64 h.dep, .int .i64 h.ay, .bool h.cC, .slice pp pl.length cp, .slice pt tr.length ct, .slice pd nd cd, .slice pk (aa.bH h tr).length ck], Row (aW 62 .u16) q n c P2, Rk, Rb, R]) := by
 refine (BA h bf pp pl cp pt tr ct pd nd cd pk ck R hP hT hcp hB hBt hpl htl Rk hRk hf hs q n c hn hcap dG hpx0 p hp Dt hDB hDl nr hnr back hback at0 hat pb cb Rb hRb hcb).mono ?_
 rintro e2 G ⟨v, rfl, (⟨h, _⟩ | ⟨a, P, z, cz, h, h1, h2, h3, h4, rfl, rfl⟩)⟩
 ·rw [hr] at h; cases h
 ·rw [hr] at h; cases h; exact ⟨_, rfl, z, cz, h1, h2, h3, h4, rfl, rfl⟩
theorem JD (w h : Int) (hs : aa.bS w h = 0) : aK Tryz.prog 85 [.int .i64 w, .int .i64 h] [] (aR fun v G => ∃ b : Nat, v = .tuple #[.agg #[.int .i64 w, .int .i64 h, .slice (some ⟨b, 0, none⟩) ((4 * w * h).toNat) ((4 * w * h).toNat)], .int .i64 0] ∧ G = [Row (aW 62 .u16) (some ⟨b, 0, none⟩) ((4 * w * h).toNat) ((4 * w * h).toNat) (List.replicate ((4 * w * h).toNat) 0)]) := by
 refine (MP w h).mono ?_
 rintro e2 G ⟨v, rfl, (⟨h1, _⟩ | ⟨_, b, rfl, rfl⟩)⟩
 ·exact absurd hs h1
 ·exact ⟨_, rfl, b, rfl, rfl⟩
set_option maxHeartbeats 8000000 in
theorem JX (h : aa.Hd) (bf : Nat) (pp : Option Addr) (pl : List Int) (cp : Nat) (pt : Option Addr) (tr : List Int) (ct : Nat) (pd : Option Addr) (cd : Nat) (pk : Option Addr) (ck : Nat) (R : ab) (hP : ∀ w0 h, R w0 h → aS U5 pp pl.length pl w0 h) (hT : ∀ w0 h, R w0 h → aS U5 pt tr.length tr w0 h) (hcp : pl.length ≤ cp) (hB : ak.az pl) (hBt : ak.az tr) (hpl : pl.length < 500000000) (htl : tr.length < 500000000) (Rk : ab) (hRk : ∀ w0 h_, Rk w0 h_ → aS (aW 3 .i64) pk (aa.bH h tr).length (aa.bH h tr) w0 h_) (hf : aa.gC ⟨h, pl, tr⟩) (hs : aa.bS h.w h.h = 0) (Z : List Int) (hZB : ak.az Z) (hZl : Z.length < 500000000) (hcd : Z.length ≤ cd) (Rd : ab) (hRd : ∀ w0 h, Rd w0 h → aS U5 pd Z.length Z w0 h) (z : List Int × Int) (hz : aL.nU Z (aa.want h) z) : aK Tryz.prog 42 [.pointer (some ⟨bf, 0, none⟩)] [ao bf 90 [.int .i64 h.w, .int .i64 h.h, .int .i64 h.dep, .int .i64 h.ay, .bool h.cC, .slice pp pl.length cp, .slice pt tr.length ct, .slice pd Z.length cd, .slice pk (aa.bH h tr).length ck], Rk, Rd, R] (aR fun v G => ∃ q n c, v = .tuple #[.agg #[.int .i64 (aa.mq ⟨h, pl, tr⟩ z).1.w, .int .i64 (aa.mq ⟨h, pl, tr⟩ z).1.h, .slice q n c], .int .i64 (aa.mq ⟨h, pl, tr⟩ z).2] ∧ (aa.mq ⟨h, pl, tr⟩ z).1.dG.length = n ∧ n ≤ c ∧ G = [Row (aW 62 .u16) q n c (aa.mq ⟨h, pl, tr⟩ z).1.dG]) := by
 refine ax [(0, _)] Tryz.func42 rfl Tryz.ntmps42 rfl rfl ?_
 intro w0 F
 have hde : aa.deep h.ay h.dep := by unfold aa.gC at hf; exact hf.1
 have hpc := aa.ik hde
 have hdi := aa.jV (aa.iC hde)
 have hbits := aa.mn hde
 have hsd := aa.kC hs
 have hs4 := aa.pF hs
 have hps := aa.kQ hs
 have hwi := aa.G9 hs hde
 have hzbl := aa.Jb hZB hwi.2 hz
 have hzB := hzbl.1
 have hzl := hzbl.2
 have hwn := aa.CM hs hde
 refine rT bb 2 rfl ?_
 refine cB V.k9 rfl ?_
 intro b2
 refine rO bb 4 rfl ?_
 refine kW [pz 0 [] [0], pz 1 [0] [], pz 3 [1] [], pz 7 [2] [], pz 15 [3] [], pz 0 [] [0], pz 32 [5] [], pz 96 [6] [], pz 224 [7] [], pz 480 [8] [], pz 1023 [4, 9] [], pz 2047 [10] []] [⟨fun y => ao b2 26 [.int .i64 0, .int .i64 0, .slice none 0 0], none, none, []⟩, ⟨fun y => ao bf 90 [.int .i64 h.w, .int .i64 h.h, .int .i64 h.dep, .int .i64 h.ay, .bool h.cC, .slice pp pl.length cp, .slice pt tr.length ct, .slice pd Z.length cd, .slice pk (aa.bH h tr).length ck], none, none, [4, 9]⟩, ⟨fun y => Rk, none, none, []⟩, ⟨fun y => Rd, none, none, []⟩, ⟨fun y => R, none, none, []⟩, ⟨fun y => Row PK (gu (y 10)) (aa.whole h.w h.h).length (iK (y 10)) (aa.whole h.w h.h), some 10, none, []⟩] F V.mixed (by kernel_rfl) rfl (fun _ => .refl _) (cg _ (cg _ (cg _ (cg _ (cg _ (eh _ rfl (by intro y y2 h; simp only [h 10 (.inl rfl)]) gX)))))) ?_
 refine nM ?_
 refine nN ?_
 refine nG V.iH ?_
 refine nG V.vq ?_
 refine nR (fun y FF hA => af V.s3 rfl an rfl) ?_
 refine nM ?_
 refine nN ?_
 refine nG V.iH ?_
 refine nG V.qX ?_
 refine nR (fun y FF hA => af V.s3 rfl an rfl) ?_
 refine gD (fun y v => .slice (gu v) (aa.whole h.w h.h).length (iK v)) (fun y v => True) _ _ (fun y v => [Row PK (gu v) (aa.whole h.w h.h).length (iK v) (aa.whole h.w h.h)]) _ (fun y => rfl) (fun y => rfl) (fun y => rfl) (fun y => rfl) (fun y FF hA => uQ (HI h.w h.h hs) V.Q9 rfl .nil) (by intros; rfl) (by intros; rfl) (by intros; rfl) (by intro y y2 h; simp only [h 10 (.inl rfl)]) (by intro y y2 h; rfl) ?_
 refine bU _ (fun y => rfl) rfl rfl rfl (fun y hA L => dp (ed rfl) ⟨rfl, rfl⟩) (by intros; rfl) (by intro y y2 h; simp only [h 10 (.inr (by decide))]) ?_
 refine aX ?_
 intro y hA
 clear hA
 refine bu ?_
 refine cy [(0, .pointer (some ⟨bf, 0, none⟩)), (2, .pointer (some ⟨b2, 0, none⟩)), (4, .slice (gu (y 10)) (aa.whole h.w h.h).length (iK (y 10)))] (.cons (d := 0) rfl (.cons (d := 2) rfl (.cons (d := 4) rfl (.nil _)))) ?_
 refine bR (M := ao b2 26 [.int .i64 0, .int .i64 0, .slice none 0 0] :: ao bf 90 [.int .i64 h.w, .int .i64 h.h, .int .i64 h.dep, .int .i64 h.ay, .bool h.cC, .slice pp pl.length cp, .slice pt tr.length ct, .slice pd Z.length cd, .slice pk (aa.bH h tr).length ck] :: Rk :: Rd :: R :: Row PK (gu (y 10)) (aa.whole h.w h.h).length (iK (y 10)) (aa.whole h.w h.h) :: F) (fun _ _ h => h) ?_
 generalize (gu (y 10)) = pw
 generalize (iK (y 10)) = cw
 refine yS (fun (pa : Option Addr) (ca : Nat) => [(0, .pointer (some ⟨bf, 0, none⟩)), (2, .pointer (some ⟨b2, 0, none⟩)), (4, .slice pa (aa.bB h).length ca)]) (fun (pa : Option Addr) (ca : Nat) => Row PK pa (aa.bB h).length ca (aa.bB h) :: ao b2 26 [.int .i64 0, .int .i64 0, .slice none 0 0] :: ao bf 90 [.int .i64 h.w, .int .i64 h.h, .int .i64 h.dep, .int .i64 h.ay, .bool h.cC, .slice pp pl.length cp, .slice pt tr.length ct, .slice pd Z.length cd, .slice pk (aa.bH h tr).length ck] :: Rk :: Rd :: R :: F) (fun (pa : Option Addr) (ca : Nat) => True) ?_ ?_
 ·rcases (aa.tf h.cC) with hl1 | hl2
  ·refine rL bb 6 rfl ?_
   refine oV (cN (v := .bool true) (af V.s4 rfl bY rfl) (congrArg Value.bool hl1)) ?_
   refine rO bb 3 rfl ?_
   refine kW [pz 0 [] [0], pz 1 [0] [], pz 3 [1] [], pz 7 [2] [], pz 15 [3] [], pz 0 [] [0], pz 32 [5] [], pz 96 [6] [], pz 224 [7] [], pz 480 [8] [], pz 1023 [4, 9] [], pz 2047 [10] []] [⟨fun y => ao b2 26 [.int .i64 0, .int .i64 0, .slice none 0 0], none, none, []⟩, ⟨fun y => ao bf 90 [.int .i64 h.w, .int .i64 h.h, .int .i64 h.dep, .int .i64 h.ay, .bool h.cC, .slice pp pl.length cp, .slice pt tr.length ct, .slice pd Z.length cd, .slice pk (aa.bH h tr).length ck], none, none, [4, 9]⟩, ⟨fun y => Rk, none, none, []⟩, ⟨fun y => Rd, none, none, []⟩, ⟨fun y => R, none, none, []⟩, ⟨fun y => Row PK pw (aa.whole h.w h.h).length cw (aa.whole h.w h.h), none, none, []⟩, ⟨fun y => Row PK (gu (y 10)) (aa.gq h.w h.h).length (iK (y 10)) (aa.gq h.w h.h), some 10, none, []⟩] F V.mixed (by kernel_rfl) rfl (fun _ => .refl _) (cg _ (cg _ (cg _ (cg _ (cg _ (cg _ (eh _ rfl (by intro y y2 h; simp only [h 10 (.inl rfl)]) gX))))))) ?_
   refine nM ?_
   refine nN ?_
   refine nG V.iH ?_
   refine nG V.vq ?_
   refine nR (fun y FF hA => af V.s3 rfl an rfl) ?_
   refine nM ?_
   refine nN ?_
   refine nG V.iH ?_
   refine nG V.qX ?_
   refine nR (fun y FF hA => af V.s3 rfl an rfl) ?_
   refine gD (fun y v => .slice (gu v) (aa.gq h.w h.h).length (iK v)) (fun y v => True) _ _ (fun y v => [Row PK (gu v) (aa.gq h.w h.h).length (iK v) (aa.gq h.w h.h)]) _ (fun y => rfl) (fun y => rfl) (fun y => rfl) (fun y => rfl) (fun y FF hA => uQ (Ea h.w h.h hs) V.Qv rfl .nil) (by intros; rfl) (by intros; rfl) (by intros; rfl) (by intro y y2 h; simp only [h 10 (.inl rfl)]) (by intro y y2 h; rfl) ?_
   refine bU _ (fun y => rfl) rfl rfl rfl (fun y hA L => dp (ed rfl) ⟨rfl, rfl⟩) (by intros; rfl) (by intro y y2 h; simp only [h 10 (.inr (by decide))]) ?_
   refine aX ?_
   intro y hA
   clear hA
   show jl _ _ _ _ (ao b2 26 [.int .i64 0, .int .i64 0, .slice none 0 0] :: ao bf 90 [.int .i64 h.w, .int .i64 h.h, .int .i64 h.dep, .int .i64 h.ay, .bool h.cC, .slice pp pl.length cp, .slice pt tr.length ct, .slice pd Z.length cd, .slice pk (aa.bH h tr).length ck] :: Rk :: Rd :: R :: Row PK pw (aa.whole h.w h.h).length cw (aa.whole h.w h.h) :: Row PK (gu (y 10)) (aa.gq h.w h.h).length (iK (y 10)) (aa.gq h.w h.h) :: F)
   (rw [show (aa.gq h.w h.h) = (aa.bB h) from aa.Ak hl1]; exact j2 _ _ trivial (jm ln) (sub (.cons om (pA .nil)) cG))
  ·refine rL bb 6 rfl ?_
   refine oV (cN (v := .bool false) (af V.s4 rfl bY rfl) (congrArg Value.bool hl2)) ?_
   refine rO bb 4 rfl ?_
   (rw [show (aa.whole h.w h.h) = (aa.bB h) from aa.zV hl2]; exact j2 _ _ trivial (jm ln) (sub (.cons kd (pA .nil)) au))
 ·intro pa ca
  rintro -
  refine rC bb 1 rfl ?_
  refine wN [pz 0 [] [4], pz 0 [] [0], pz 2 [1] [], pz 6 [2] [], pz 14 [3] [], pz 30 [4] [], pz 62 [5] [], pz 0 [] [0], pz 128 [7] [], pz 384 [8] [], pz 896 [9] [], pz 1920 [10] [], pz 4094 [6, 11] [], pz 8191 [0, 12] [], pz 16383 [13] []] [⟨fun y => Row PK pa (aa.bB h).length ca (aa.bB h), none, none, [13]⟩, ⟨fun y => ao b2 26 [.int .i64 0, .int .i64 0, .slice none 0 0], none, none, []⟩, ⟨fun y => ao bf 90 [.int .i64 h.w, .int .i64 h.h, .int .i64 h.dep, .int .i64 h.ay, .bool h.cC, .slice pp pl.length cp, .slice pt tr.length ct, .slice pd Z.length cd, .slice pk (aa.bH h tr).length ck], none, none, [5, 11]⟩, ⟨fun y => Rk, none, none, []⟩, ⟨fun y => Rd, none, none, []⟩, ⟨fun y => R, none, none, []⟩] F V.mixed ?_
  iterate 2 refine nM ?_
  refine nN ?_
  refine nG V.iH ?_
  refine nG V.ph ?_
  refine nR (fun y FF hA => af V.s3 rfl an rfl) ?_
  refine nE (fun y FF hA => bM (Post := []) (iu h.ay) V.oo rfl .nil (fun v G h => by rcases h with ⟨rfl, rfl⟩; exact ⟨rfl, .refl _⟩)) ?_
  refine nM ?_
  refine nN ?_
  refine nG V.iH ?_
  refine nG V.lD ?_
  refine nR (fun y FF hA => af V.s3 rfl an rfl) ?_
  refine nV (fun y hA L => jQ (r := (aa.parts h.ay * h.dep)) rfl rfl wI) ?_
  refine nE (fun y FF hA => bM (Post := [Row PK pa (aa.bB h).length ca (aa.bB h)]) (Gw pa ca (aa.bB h) (aa.parts h.ay * h.dep) (Row PK pa (aa.bB h).length ca (aa.bB h)) (fun _ _ hh => hh.rd) hps.2 (fun p hp => (hps.1 p hp).2.1) ⟨by omega, by omega⟩) V.Rr rfl (aw .nil) (fun v G hh => by rcases hh with ⟨rfl, rfl⟩; exact ⟨congrArg (Value.int .i64) (aa.HX h), .refl _⟩)) ?_
  refine nA ?_
  refine aX ?_
  intro y hA
  clear hA
  refine bu ?_
  refine cy [(0, .pointer (some ⟨bf, 0, none⟩)), (2, .pointer (some ⟨b2, 0, none⟩)), (4, .slice pa (aa.bB h).length ca), (5, .int .i64 (aa.want h))] (.cons (d := 0) rfl (.cons (d := 2) rfl (.cons (d := 4) rfl (.cons (d := 5) rfl (.nil _))))) ?_
  refine bR (M := Row PK pa (aa.bB h).length ca (aa.bB h) :: ao b2 26 [.int .i64 0, .int .i64 0, .slice none 0 0] :: ao bf 90 [.int .i64 h.w, .int .i64 h.h, .int .i64 h.dep, .int .i64 h.ay, .bool h.cC, .slice pp pl.length cp, .slice pt tr.length ct, .slice pd Z.length cd, .slice pk (aa.bH h tr).length ck] :: Rk :: Rd :: R :: F) (fun _ _ h => h) ?_
  refine rC bb 5 rfl ?_
  refine oV (af V.eA rfl cx rfl) ?_
  refine oV (aG rfl) ?_
  refine ai (Iz pd cd Z Rd hRd hcd hZl hZB (aa.want h) hwi.2 z hz) V.QE  rfl (.cons jH .nil) rfl ?_
  rintro _ _ ⟨qz, cqz, rfl, rfl⟩
  refine rO bb 9 rfl ?_
  rcases (aa.Qi ⟨h, pl, tr⟩ z) with ⟨h1, hw_⟩ | ⟨h1, h2, hw_⟩ | ⟨h1, h2⟩
  ·refine rC bb 3 rfl ?_
   refine oV (aU (bG rfl rfl) h1) ?_
   refine rO bb 6 rfl ?_
   refine oV (bV V.mB V.k9 rfl (cs := [_, _, _]) rfl) ?_
   refine oV (aG rfl) ?_
   refine aQ (aD V.eX rfl rfl (us := [_, _, _]) rfl rfl (by exact yh) (by exact Nat.le_of_ble_eq_true rfl) rfl) ?_
   refine rO bb 6 rfl ?_
   rw [hw_]
   exact aj (dY V.eX rfl eL rfl rfl) ⟨none, 0, 0, rfl, rfl, Nat.le_refl _, rfl⟩ ((ei (A := Row (aW 62 .u16) none 0 0 []) (fun w0 => Row.nil _ _ _)).trans (sub (aw .nil) Ga))
  ·refine rC bb 3 rfl ?_
   refine oV (aA (bG rfl rfl) h1) ?_
   refine rO bb 9 rfl ?_
   refine oV (aU (bD rfl rfl) h2) ?_
   refine rO bb 6 rfl ?_
   refine oV (bV V.mB V.k9 rfl (cs := [_, _, _]) rfl) ?_
   refine aQ (aD V.eX rfl rfl (us := [_, _, _]) rfl rfl (by exact yh) (by exact Nat.le_of_ble_eq_true rfl) rfl) ?_
   refine rO bb 6 rfl ?_
   rw [hw_]
   exact aj (dY V.eX rfl eL rfl rfl) ⟨none, 0, 0, rfl, rfl, Nat.le_refl _, rfl⟩ ((ei (A := Row (aW 62 .u16) none 0 0 []) (fun w0 => Row.nil _ _ _)).trans (sub (aw .nil) Ga))
  ·refine rC bb 3 rfl ?_
   refine oV (aA (bG rfl rfl) h1) ?_
   refine rO bb 9 rfl ?_
   refine oV (aA (bD rfl rfl) h2) ?_
   refine rO bb 8 rfl ?_
   refine iU (fun w hi => gY hi (show Row U5 qz z.1.length cqz z.1 ∈ _ by exact an)) (fun hcz0 => ?_)
   refine kW [pz 0 [] [0], pz 1 [0] [], pz 3 [1] [], pz 7 [2] [], pz 15 [3] [], pz 0 [] [0], pz 32 [5] [], pz 96 [6] [], pz 224 [7] [], pz 480 [8] [], pz 1023 [4, 9] [], pz 2047 [10] [], pz 4095 [11] [], pz 4095 [11] [], pz 0 [] [], pz 24575 [14, 12] [], pz 65535 [13] []] [⟨fun y => Row U5 qz z.1.length cqz z.1, none, none, []⟩, ⟨fun y => Rd, none, none, []⟩, ⟨fun y => Row PK pa (aa.bB h).length ca (aa.bB h), none, none, []⟩, ⟨fun y => ao b2 26 [.int .i64 0, .int .i64 0, .slice none 0 0], none, none, []⟩, ⟨fun y => ao bf 90 [.int .i64 h.w, .int .i64 h.h, .int .i64 h.dep, .int .i64 h.ay, .bool h.cC, .slice pp pl.length cp, .slice pt tr.length ct, .slice pd Z.length cd, .slice pk (aa.bH h tr).length ck], none, none, [4, 9]⟩, ⟨fun y => Rk, none, none, []⟩, ⟨fun y => R, none, none, []⟩, ⟨fun y => Row (aW 62 .u16) (some ⟨uX (y 10), 0, none⟩) ((4 * h.w * h.h).toNat) ((4 * h.w * h.h).toNat) (List.replicate ((4 * h.w * h.h).toNat) 0), some 10, none, []⟩, ⟨fun y => ao (fG (y 14)) 26 [.int .i64 0, .int .i64 0, .slice none 0 0], some 14, some 15, []⟩, ⟨fun y => ao (fG (y 14)) 26 [.int .i64 h.w, .int .i64 h.h, .slice (some ⟨uX (y 10), 0, none⟩) ((4 * h.w * h.h).toNat) ((4 * h.w * h.h).toNat)], some 15, none, []⟩] F V.mixed (by kernel_rfl) rfl (fun _ => .refl _) (cg _ (cg _ (cg _ (cg _ (cg _ (cg _ (cg _ (eh _ rfl (by intro y y2 h; simp only [h 10 (.inl rfl)]) (eh _ rfl (by intro y y2 h; simp only [h 14 (.inl rfl)]) (eh _ rfl (by intro y y2 h; simp only [h 10 (.inr (by decide)), h 14 (.inr (by decide))]) gX)))))))))) ?_
   refine nM ?_
   refine nN ?_
   refine nG V.iH ?_
   refine nG V.vq ?_
   refine nR (fun y FF hA => af V.s3 rfl an rfl) ?_
   refine nM ?_
   refine nN ?_
   refine nG V.iH ?_
   refine nG V.qX ?_
   refine nR (fun y FF hA => af V.s3 rfl an rfl) ?_
   refine gD (fun y v => .tuple #[.agg #[.int .i64 h.w, .int .i64 h.h, .slice (some ⟨uX v, 0, none⟩) ((4 * h.w * h.h).toNat) ((4 * h.w * h.h).toNat)], .int .i64 0]) (fun y v => True) _ _ (fun y v => [Row (aW 62 .u16) (some ⟨uX v, 0, none⟩) ((4 * h.w * h.h).toNat) ((4 * h.w * h.h).toNat) (List.replicate ((4 * h.w * h.h).toNat) 0)]) _ (fun y => rfl) (fun y => rfl) (fun y => rfl) (fun y => rfl) (fun y FF hA => sB (α := Nat) (fun b => .tuple #[.agg #[.int .i64 h.w, .int .i64 h.h, .slice (some ⟨b, 0, none⟩) ((4 * h.w * h.h).toNat) ((4 * h.w * h.h).toNat)], .int .i64 0]) uX (fun b => [Row (aW 62 .u16) (some ⟨b, 0, none⟩) ((4 * h.w * h.h).toNat) ((4 * h.w * h.h).toNat) (List.replicate ((4 * h.w * h.h).toNat) 0)]) (JD h.w h.h hs) (fun a => rfl) V.QA rfl .nil) (by intros; rfl) (by intros; rfl) (by intros; rfl) (by intro y y2 h; simp only [h 10 (.inl rfl)]) (by intro y y2 h; rfl) ?_
   refine bU _ (fun y => rfl) rfl rfl rfl (fun y hA L => dp (aG rfl) ⟨rfl, rfl⟩) (by intros; rfl) (by intro y y2 h; simp only [h 10 (.inr (by decide))]) ?_
   refine bU _ (fun y => rfl) rfl rfl rfl (fun y hA L => dp (eE rfl rfl) ⟨rfl, rfl⟩) (by intros; rfl) (by intro y y2 h; simp only [h 10 (.inr (by decide))]) ?_
   refine nV (fun y hA L => eE rfl rfl) ?_
   refine gD (fun y v => .pointer (some ⟨fG v, 0, none⟩)) (fun y v => True) _ _ (fun y v => [ao (fG v) 26 [.int .i64 0, .int .i64 0, .slice none 0 0]]) _ (fun y => rfl) (fun y => rfl) (fun y => rfl) (fun y => rfl) (fun y FF hA => qK (ry V.k9)) (by intros; rfl) (by intros; rfl) (by intros; rfl) (by intro y y2 h; simp only [h 14 (.inl rfl)]) (by intro y y2 h; rfl) ?_
   refine nE (fun y FF hA => dp (aD V.eX rfl rfl (us := [_, _, _]) rfl rfl (by exact cZ) (by exact Nat.le_of_ble_eq_true rfl) rfl) ⟨rfl, .refl _⟩) ?_
   refine nA ?_
   refine aX ?_
   intro y hA
   clear hA
   refine bu ?_
   refine cy [(0, .pointer (some ⟨bf, 0, none⟩)), (2, .pointer (some ⟨b2, 0, none⟩)), (4, .slice pa (aa.bB h).length ca), (6, .slice qz z.1.length cqz), (8, .pointer (some ⟨(fG (y 14)), 0, none⟩))] (.cons (d := 0) rfl (.cons (d := 2) rfl (.cons (d := 4) rfl (.cons (d := 6) rfl (.cons (d := 8) rfl (.nil _)))))) ?_
   refine bR (M := Row U5 qz z.1.length cqz z.1 :: Rd :: Row PK pa (aa.bB h).length ca (aa.bB h) :: ao b2 26 [.int .i64 0, .int .i64 0, .slice none 0 0] :: ao bf 90 [.int .i64 h.w, .int .i64 h.h, .int .i64 h.dep, .int .i64 h.ay, .bool h.cC, .slice pp pl.length cp, .slice pt tr.length ct, .slice pd Z.length cd, .slice pk (aa.bH h tr).length ck] :: Rk :: R :: Row (aW 62 .u16) (some ⟨uX (y 10), 0, none⟩) ((4 * h.w * h.h).toNat) ((4 * h.w * h.h).toNat) (List.replicate ((4 * h.w * h.h).toNat) 0) :: ao (fG (y 14)) 26 [.int .i64 h.w, .int .i64 h.h, .slice (some ⟨uX (y 10), 0, none⟩) ((4 * h.w * h.h).toNat) ((4 * h.w * h.h).toNat)] :: F) (fun _ _ h => h) ?_
   generalize (uX (y 10)) = bq
   generalize (fG (y 14)) = b8
   refine rC bb 14 rfl ?_
   rw [show List.replicate ((4 * h.w * h.h).toNat) 0 = aa.mA h from by unfold aa.mA; rfl]
   obtain ⟨RES, hRES⟩ : ∃ r, r = aa.gT ⟨h, pl, tr⟩ z.1 (aa.bB h) 0 (aa.mA h) := ⟨_, rfl⟩
   have h2w : ¬ (z.1.length : Int) < aa.want h := h2
   refine ze (fun (i : Nat) (a : Nat) (pz : Option Addr) (cz : Nat) (P : List Int) => [(0, .pointer (some ⟨bf, 0, none⟩)), (2, .pointer (some ⟨b2, 0, none⟩)), (6, .slice pz (z.1.length - a) cz), (8, .pointer (some ⟨b8, 0, none⟩)), (88, .slice pa (aa.bB h).length ca), (89, .int .i64 ((aa.bB h).length : Int)), (90, .int .i64 (i : Int))]) (fun (i : Nat) (a : Nat) (pz : Option Addr) (cz : Nat) (P : List Int) => ao b8 26 [.int .i64 h.w, .int .i64 h.h, .slice (some ⟨bq, 0, none⟩) ((4 * h.w * h.h).toNat) ((4 * h.w * h.h).toNat)] :: Row (aW 62 .u16) (some ⟨bq, 0, none⟩) ((4 * h.w * h.h).toNat) ((4 * h.w * h.h).toNat) P :: Row PK pa (aa.bB h).length ca (aa.bB h) :: Row U5 qz z.1.length cqz z.1 :: ao b2 26 [.int .i64 0, .int .i64 0, .slice none 0 0] :: ao bf 90 [.int .i64 h.w, .int .i64 h.h, .int .i64 h.dep, .int .i64 h.ay, .bool h.cC, .slice pp pl.length cp, .slice pt tr.length ct, .slice pd Z.length cd, .slice pk (aa.bH h tr).length ck] :: Rk :: Rd :: R :: F) (fun (i : Nat) (a : Nat) (pz : Option Addr) (cz : Nat) (P : List Int) => i ≤ (aa.bB h).length ∧ P.length = ((4 * h.w * h.h).toNat) ∧ a + aa.nQ (aa.bitsOf h) ((aa.bB h).drop i) ≤ z.1.length ∧ (∀ w0 h, (Row U5 qz z.1.length cqz z.1) w0 h → aS U5 pz (z.1.length - a) (z.1.drop a) w0 h) ∧ z.1.length - a ≤ cz ∧ aa.gT ⟨h, pl, tr⟩ z.1 ((aa.bB h).drop i) a P = RES) (fun (i : Nat) (a : Nat) (pz : Option Addr) (cz : Nat) (P : List Int) => (aa.bB h).length - i) (i5 (0) (0) (qz) (cqz) (aa.mA h) ?_ (kF (dk ln)) (sub (.cons JH (.cons Jo (.cons bK (aw (.cons aE (.cons aE (.cons aE (.cons dX (.cons dX .nil))))))))) au)) ?_
   ·exact ⟨Nat.zero_le _, List.length_replicate, by rw [List.drop_zero]; show 0 + _ ≤ _; omega, (fun _ _ hh => hh.rd), hcz0, hRES.symm⟩
   intro i a pz cz P
   rintro ⟨hi, hPl, hat, hzr, hzc, hres⟩
   refine rL bb 6 rfl ?_
   refine aP rfl (fun h91 => ?_) (fun h91 => ?_)
   ·refine rC bb 5 rfl ?_
    obtain ⟨x, hx⟩ : ∃ x, x = (PK.g (aa.bB h) (i : Int)) := ⟨_, rfl⟩
    have hx2 : x = (aa.bB h).getD i ⟨0, 0, 0, 0, 0, 0⟩ := hx
    have hxi := hps.1 x (hx2 ▸ aa.Da (by omega))
    have hne := aa.Kj (bits := aa.bitsOf h) (by omega) hx2
    refine bo ?_
    refine oV (xI V.tq (own cx)) ?_
    refine oV (cN (v := .agg #[.int .i64 x.x, .int .i64 x.y, .int .i64 x.dx, .int .i64 x.dy, .int .i64 x.w, .int .i64 x.h]) (ow (c := PK) V.a145 rfl (own cx) (by omega) (by omega) rfl) (by rw [hx])) ?_
    refine cB V.z145 rfl ?_
    intro b12
    refine aQ (aD V.a145 rfl rfl (us := [_, _, _, _, _, _]) rfl rfl (by exact cZ) (by exact Nat.le_of_ble_eq_true rfl) rfl) ?_
    refine rO bb 2 rfl ?_
    rcases (aa.O1 (aa.fz ⟨h, pl, tr⟩ z.1 (aa.lO h x) (aa.nJ h) x x.h.toNat 0 a [] P)) with hr | ⟨a2, P2, hr⟩
    ·refine rC bb 3 rfl ?_
     refine oV (bX V.eX rfl bY (vs := [_, _, _]) rfl rfl) ?_
     refine oV (bX V.a145 rfl an (vs := [_, _, _, _, _, _]) rfl rfl) ?_
     refine oV (aG rfl) ?_
     refine ai (Gq h bf pp pl cp pt tr ct pd Z.length cd pk ck R hP hT hcp hB hBt hpl htl Rk hRk hf hs (some ⟨bq, 0, none⟩) ((4 * h.w * h.h).toNat) ((4 * h.w * h.h).toNat) (by omega) (Nat.le_refl _) P hPl x hxi.1 z.1 hzB hzl (aa.lO h x) (aa.yT hxi.2.1 hde) (aa.nJ h) (aa.yN h) a (by rw [hne] at hat; unfold aa.lO; omega) pz cz (Row U5 qz z.1.length cqz z.1) hzr hzc hr) V.OH  rfl (.cons om (.cons bK (.cons kd (.cons eg (.cons kd .nil))))) rfl ?_
     rintro _ _ ⟨rfl, P2, hP2, rfl⟩
     refine rO bb 16 rfl ?_
     refine oV (bV V.mB V.k9 rfl (cs := [_, _, _]) rfl) ?_
     refine aQ (aD V.eX rfl rfl (us := [_, _, _]) rfl rfl (by exact Oj) (by exact Nat.le_of_ble_eq_true rfl) rfl) ?_
     refine rO bb 9 rfl ?_
     rw [aa.FM (f := ⟨h, pl, tr⟩) h1 h2 (hRES.symm.trans (aa.KB (f := ⟨h, pl, tr⟩) (by omega) hx2 hr hres))]
     exact aj (dY V.eX rfl OD rfl rfl) ⟨none, 0, 0, rfl, rfl, Nat.le_refl _, rfl⟩ ((ei (A := Row (aW 62 .u16) none 0 0 []) (fun w0 => Row.nil _ _ _)).trans (sub (aw .nil) Lm))
    ·refine rC bb 3 rfl ?_
     refine oV (bX V.eX rfl bY (vs := [_, _, _]) rfl rfl) ?_
     refine oV (bX V.a145 rfl an (vs := [_, _, _, _, _, _]) rfl rfl) ?_
     refine oV (aG rfl) ?_
     refine ai (Gz h bf pp pl cp pt tr ct pd Z.length cd pk ck R hP hT hcp hB hBt hpl htl Rk hRk hf hs (some ⟨bq, 0, none⟩) ((4 * h.w * h.h).toNat) ((4 * h.w * h.h).toNat) (by omega) (Nat.le_refl _) P hPl x hxi.1 z.1 hzB hzl (aa.lO h x) (aa.yT hxi.2.1 hde) (aa.nJ h) (aa.yN h) a (by rw [hne] at hat; unfold aa.lO; omega) pz cz (Row U5 qz z.1.length cqz z.1) hzr hzc a2 P2 hr) V.OH  rfl (.cons om (.cons bK (.cons kd (.cons eg (.cons kd .nil))))) rfl ?_
     rintro _ _ ⟨pz2, cz2, hP2, ha2, hz2, hcz2, rfl, rfl⟩
     refine cV bb 21 rfl (by omega) ?_
     exact j5 (i + 1) a2 pz2 cz2 P2 ⟨⟨by omega, hP2, by rw [ha2]; rw [hne] at hat; unfold aa.lO; omega, hz2, hcz2, aa.LG (f := ⟨h, pl, tr⟩) (by omega) hx2 hr hres⟩, by omega⟩ (kF (dk ln)) (sub (.cons om (.cons aE (.cons kd (.cons bK (.cons jH (bp (.cons bK (.cons dX .nil)))))))) cG)
   ·refine rC bb 7 rfl ?_
    refine oV (bX V.eX rfl an (vs := [_, _, _]) rfl rfl) ?_
    refine aQ (aD V.eX rfl rfl (us := [_, _, _]) rfl rfl (by exact FY) (by exact Nat.le_of_ble_eq_true rfl) rfl) ?_
    refine rO bb 4 rfl ?_
    rw [aa.FQ (f := ⟨h, pl, tr⟩) h1 h2 (hRES.symm.trans (aa.KP (by omega) hres))]
    exact aj (dY V.eX rfl jv rfl rfl) ⟨_, _, _, rfl, hPl, Nat.le_refl _, rfl⟩ (sub (.cons aE .nil) Ja)
theorem IS (p : Option Addr) (c : Nat) (B : List Int) (R : ab) (hR : ∀ w0 h, R w0 h → aS U5 p B.length B w0 h) (hl : B.length < 500000000) (hB : ak.az B) (hcap : B.length ≤ c) (e : Int) (hc : aa.cut B = .error e) : aK Tryz.prog 37 [.slice p B.length c] [R] (aR fun v G => v = .tuple #[.slice none 0 0, .int .i64 e] ∧ G = [R]) := by
 refine (Fv p c B R hR hl hB hcap).mono ?_
 rintro e2 G ⟨v, rfl, (⟨e', h, rfl, rfl⟩ | ⟨q, cq, es, h, _⟩)⟩
 ·rw [hc] at h; cases h; exact ⟨_, rfl, rfl, rfl⟩
 ·rw [hc] at h; cases h
theorem pI (p : Option Addr) (c : Nat) (B : List Int) (R : ab) (hR : ∀ w0 h, R w0 h → aS U5 p B.length B w0 h) (hl : B.length < 500000000) (hB : ak.az B) (hcap : B.length ≤ c) (l : List aa.Ch) (hc : aa.cut B = .ok l) : aK Tryz.prog 37 [.slice p B.length c] [R] (aR fun v G => ∃ q cq, ∃ es : List Ce, l = es.map Ce.ch ∧ es.length ≤ 262144 ∧ (∀ y ∈ es, yA y) ∧ v = .tuple #[.slice q es.length cq, .int .i64 0] ∧ G = [Row CK q es.length cq es, DK es, R]) := by
 refine (Fv p c B R hR hl hB hcap).mono ?_
 rintro e2 G ⟨v, rfl, (⟨e', h, _⟩ | ⟨q, cq, es, h, h1, h2, rfl, rfl⟩)⟩
 ·rw [hc] at h; cases h
 ·rw [hc] at h; cases h; exact ⟨_, rfl, q, cq, es, rfl, h1, h2, rfl, rfl⟩
theorem mg {B : List Int} {es : List Ce} (hB : ak.az B) (hc : aa.cut B = .ok (es.map Ce.ch)) : FH es := fun x hx => aa.NJ hB hc x.ch (List.mem_map_of_mem hx)
theorem pR (es : List Ce) : aa.fJ (es.map Ce.ch) = (CK.g es 0).d := by
 unfold aa.fJ
 cases es <;> rfl
theorem qD {es : List Ce} (h : 0 < es.length) : CK.g es 0 ∈ es := by
 match es, h with
 | x :: es, _ => exact List.mem_cons_self ..
theorem tR {es : List Ce} {s : qJ} (hs : mG es es.length s) (ho : aa.dS (es.map Ce.ch) = true) : s.P = aa.cI (es.map Ce.ch) aa.bC ∧ s.T = aa.cI (es.map Ce.ch) aa.bZ ∧ s.D = aa.dr (es.map Ce.ch) ∧ s.hp = aa.fI (es.map Ce.ch) aa.bC ∧ s.ht = aa.fI (es.map Ce.ch) aa.bZ := by
 obtain ⟨h1, h2, h3, h4, h5, _⟩ := hs
 have e : (es.map Ce.ch).take es.length = es.map Ce.ch := List.take_of_length_le (by rw [List.length_map]; exact Nat.le_refl _)
 rw [e] at h1 h2 h3 h4 h5
 have hl := aa.DI ho
 exact ⟨h1.trans hl.1, h2.trans hl.2, h3, h4, h5⟩
theorem ub (h : aa.Hd) (hd : aa.jC h.dep) (bf : Nat) (pp : Option Addr) (pl : List Int) (cp : Nat) (pt : Option Addr) (tr : List Int) (ct : Nat) (pd : Option Addr) (nd cd : Nat) (pk : Option Addr) (nk ck : Nat) (hl : pl.length < 500000000) (has : Bool) (t : Bool) (ht : t = decide (aa.jw h pl has)) : aK Tryz.prog 40 [.pointer (some ⟨bf, 0, none⟩), .bool has] [ao bf 90 [.int .i64 h.w, .int .i64 h.h, .int .i64 h.dep, .int .i64 h.ay, .bool h.cC, .slice pp pl.length cp, .slice pt tr.length ct, .slice pd nd cd, .slice pk nk ck]] (aR fun v G => v = .bool t ∧ G = [ao bf 90 [.int .i64 h.w, .int .i64 h.h, .int .i64 h.dep, .int .i64 h.ay, .bool h.cC, .slice pp pl.length cp, .slice pt tr.length ct, .slice pd nd cd, .slice pk nk ck]]) := by
 cases has with
 | true => exact BL h hd bf pp pl cp pt tr ct pd nd cd pk nk ck hl t ht
 | false => exact AF h hd bf pp pl cp pt tr ct pd nd cd pk nk ck hl t ht
theorem vW (h : aa.Hd) (hd : aa.jC h.dep) (bf : Nat) (pp : Option Addr) (pl : List Int) (cp : Nat) (pt : Option Addr) (tr : List Int) (ct : Nat) (pd : Option Addr) (nd cd : Nat) (hpl : pl.length < 500000000) (htl : tr.length < 500000000) (hB : ak.az tr) (R : ab) (hR : ∀ w0 h, R w0 h → aS U5 pt tr.length tr w0 h) (is : Bool) (hi : is = false → tr = []) (t : Bool) (ht : t = decide (aa.jJ h pl tr is)) : aK Tryz.prog 41 [.pointer (some ⟨bf, 0, none⟩), .bool is] [ao bf 90 [.int .i64 h.w, .int .i64 h.h, .int .i64 h.dep, .int .i64 h.ay, .bool h.cC, .slice pp pl.length cp, .slice pt tr.length ct, .slice pd nd cd, .slice none 0 0], R] (aR fun v G => ∃ pk nk ck K, (t = true → K = aa.bH h tr) ∧ K.length = nk ∧ v = .bool t ∧ G = [ao bf 90 [.int .i64 h.w, .int .i64 h.h, .int .i64 h.dep, .int .i64 h.ay, .bool h.cC, .slice pp pl.length cp, .slice pt tr.length ct, .slice pd nd cd, .slice pk nk ck], Row (aW 3 .i64) pk nk ck K, R]) := by
 cases is with
 | true => exact zC h hd bf pp pl cp pt tr ct pd nd cd hpl htl hB R hR t ht
 | false =>
  have e := Ab h hd bf pp pl cp pt tr ct pd nd cd hpl (hi rfl) htl hB t (ht.trans (decide_eq_true (aa.K0 h pl tr)))
  refine (e.frame [R]).mono ?_
  rintro e2 G ⟨v, rfl, G', ⟨pk, nk, ck, K, h1, h2, h3, rfl⟩, rfl⟩
  exact ⟨_, rfl, pk, nk, ck, K, h1, h2, h3, rfl⟩
set_option maxHeartbeats 16000000 in
theorem wv (p : Option Addr) (c : Nat) (B : List Int) (R : ab) (hR : ∀ w0 h, R w0 h → aS U5 p B.length B w0 h) (hl : B.length < 500000000) (hB : ak.az B) (hcap : B.length ≤ c) (r : aa.tp × Int) (hr0 : aa.ot B r) : aK Tryz.prog 14 [.slice p B.length c] [R] (aR fun v G => ∃ q n c2, v = .tuple #[.agg #[.int .i64 r.1.w, .int .i64 r.1.h, .slice q n c2], .int .i64 r.2] ∧ r.1.dG.length = n ∧ n ≤ c2 ∧ G = [Row (aW 62 .u16) q n c2 r.1.dG, R]) := by
 refine ax [(0, _)] Tryz.func14 rfl Tryz.ntmps14 rfl rfl ?_
 intro w0 F
 refine rT bb 2 rfl ?_
 refine cB V.k9 rfl ?_
 intro b2
 refine rO bb 3 rfl ?_
 rcases (hr0.PX) with ⟨e, h1, hr⟩ | ⟨l, h1, ho, hr⟩ | ⟨l, h1, ho, hh, hr⟩ | ⟨l, h1, ho, hh, ht, hr⟩ | ⟨l, h1, ho, hh, ht, hc, hr⟩ | ⟨l, z, h1, ho, hh, ht, hc, hz, hr⟩
 ·refine rC bb 3 rfl ?_
  refine ai (IS p c B R hR hl hB hcap e h1) V.zr  rfl (.cons aE .nil) rfl ?_
  rintro _ _ ⟨rfl, rfl⟩
  refine rO bb 11 rfl ?_
  refine oV (aU (bG rfl rfl) (aa.JV h1)) ?_
  refine rO bb 5 rfl ?_
  refine oV (bV V.mB V.k9 rfl (cs := [_, _, _]) rfl) ?_
  refine oV (aG rfl) ?_
  refine aQ (aD V.eX rfl rfl (us := [_, _, _]) rfl rfl (by exact jG) (by exact Nat.le_of_ble_eq_true rfl) rfl) ?_
  refine rO bb 5 rfl ?_
  subst hr
  exact aj (dY V.eX rfl bY rfl rfl) ⟨none, 0, 0, rfl, rfl, Nat.le_refl _, rfl⟩ ((ei (A := Row (aW 62 .u16) none 0 0 []) (fun w0 => Row.nil _ _ _)).trans (sub (bp .nil) cG))
 ·refine rC bb 3 rfl ?_
  refine ai (pI p c B R hR hl hB hcap l h1) V.zr  rfl (.cons aE .nil) rfl ?_
  rintro _ _ ⟨q13, c13, es, rfl, hel, hco, rfl, rfl⟩
  refine rO bb 11 rfl ?_
  refine oV (aA (bG rfl rfl) (fun q => q rfl)) ?_
  refine rO bb 7 rfl ?_
  refine iU (fun w hi => gY hi (show Row CK q13 es.length c13 es ∈ _ by exact an)) (fun hcq => ?_)
  refine rC bb 2 rfl ?_
  refine ai (nT q13 c13 es (Row CK q13 es.length c13 es) (fun _ _ hh => hh.rd) hel (mg hB h1) hcq) V.BK  rfl (aw .nil) rfl ?_
  rintro _ _ ⟨rfl, rfl⟩
  rw [aa.mh ho]
  refine rO bb 6 rfl ?_
  refine oV (aU (bG rfl rfl) (by decide)) ?_
  refine rO bb 5 rfl ?_
  refine oV (bV V.mB V.k9 rfl (cs := [_, _, _]) rfl) ?_
  refine oV (aG rfl) ?_
  refine aQ (aD V.eX rfl rfl (us := [_, _, _]) rfl rfl (by exact yh) (by exact Nat.le_of_ble_eq_true rfl) rfl) ?_
  refine rO bb 5 rfl ?_
  subst hr
  exact aj (dY V.eX rfl eL rfl rfl) ⟨none, 0, 0, rfl, rfl, Nat.le_refl _, rfl⟩ ((ei (A := Row (aW 62 .u16) none 0 0 []) (fun w0 => Row.nil _ _ _)).trans (sub (aw (.cons bK .nil)) n4))
 ·refine rC bb 3 rfl ?_
  refine ai (pI p c B R hR hl hB hcap l h1) V.zr  rfl (.cons aE .nil) rfl ?_
  rintro _ _ ⟨q13, c13, es, rfl, hel, hco, rfl, rfl⟩
  refine rO bb 11 rfl ?_
  refine oV (aA (bG rfl rfl) (fun q => q rfl)) ?_
  refine rO bb 7 rfl ?_
  refine iU (fun w hi => gY hi (show Row CK q13 es.length c13 es ∈ _ by exact an)) (fun hcq => ?_)
  refine rC bb 2 rfl ?_
  refine ai (nT q13 c13 es (Row CK q13 es.length c13 es) (fun _ _ hh => hh.rd) hel (mg hB h1) hcq) V.BK  rfl (aw .nil) rfl ?_
  rintro _ _ ⟨rfl, rfl⟩
  rw [aa.qI ho]
  refine rO bb 6 rfl ?_
  refine oV (aA (bG rfl rfl) (fun q => q rfl)) ?_
  refine rO bb 6 rfl ?_
  have h3 : 0 < es.length := by have := aa.vz ho; rw [List.length_map] at this; omega
  refine rC bb 2 rfl ?_
  refine oV (xI V.gA (own an)) ?_
  refine oV (aF V.lu rfl) ?_
  refine oV (dU (c := (CK)) 1 V.eA rfl (own an) (by omega) (by omega) rfl rfl) ?_
  refine ai (qx (CK.g es 0).p (CK.g es 0).c (CK.g es 0).d (DK es) (nf (qD h3)) (aa.iw hB h1 (CK.g es 0).ch (List.mem_map_of_mem (qD h3)))) V.wG  rfl (.cons aE .nil) rfl ?_
  rintro _ _ ⟨rfl, rfl⟩
  refine rO bb 3 rfl ?_
  refine cB V.mZ rfl ?_
  intro b7
  refine aQ (aD V.iW rfl rfl (us := [_, _, _, _, _]) rfl rfl (by exact cZ) (by exact Nat.le_of_ble_eq_true rfl) rfl) ?_
  refine rO bb 7 rfl ?_
  refine oV (aU (bG rfl rfl) (by rw [← pR]; exact hh)) ?_
  refine rO bb 5 rfl ?_
  refine oV (bV V.mB V.k9 rfl (cs := [_, _, _]) rfl) ?_
  refine oV (aG rfl) ?_
  refine aQ (aD V.eX rfl rfl (us := [_, _, _]) rfl rfl (by exact FY) (by exact Nat.le_of_ble_eq_true rfl) rfl) ?_
  refine rO bb 5 rfl ?_
  rw [← pR]
  subst hr
  exact aj (dY V.eX rfl jv rfl rfl) ⟨none, 0, 0, rfl, rfl, Nat.le_refl _, rfl⟩ ((ei (A := Row (aW 62 .u16) none 0 0 []) (fun w0 => Row.nil _ _ _)).trans (sub (aw (.cons eg .nil)) mE))
 ·refine rC bb 3 rfl ?_
  refine ai (pI p c B R hR hl hB hcap l h1) V.zr  rfl (.cons aE .nil) rfl ?_
  rintro _ _ ⟨q13, c13, es, rfl, hel, hco, rfl, rfl⟩
  refine rO bb 11 rfl ?_
  refine oV (aA (bG rfl rfl) (fun q => q rfl)) ?_
  refine rO bb 7 rfl ?_
  refine iU (fun w hi => gY hi (show Row CK q13 es.length c13 es ∈ _ by exact an)) (fun hcq => ?_)
  refine rC bb 2 rfl ?_
  refine ai (nT q13 c13 es (Row CK q13 es.length c13 es) (fun _ _ hh => hh.rd) hel (mg hB h1) hcq) V.BK  rfl (aw .nil) rfl ?_
  rintro _ _ ⟨rfl, rfl⟩
  rw [aa.qI ho]
  refine rO bb 6 rfl ?_
  refine oV (aA (bG rfl rfl) (fun q => q rfl)) ?_
  refine rO bb 6 rfl ?_
  have h3 : 0 < es.length := by have := aa.vz ho; rw [List.length_map] at this; omega
  obtain ⟨h, hhd⟩ : ∃ h, h = aa.aO (aa.fJ (es.map Ce.ch)) := ⟨_, rfl⟩
  rw [← hhd] at ht
  obtain ⟨hde, hsz⟩ := aa.rP hh
  rw [← hhd] at hde hsz
  have hd := aa.iC hde
  have hcl := aa.uz h1
  refine rC bb 2 rfl ?_
  refine oV (xI V.gA (own an)) ?_
  refine oV (aF V.lu rfl) ?_
  refine oV (dU (c := (CK)) 1 V.eA rfl (own an) (by omega) (by omega) rfl rfl) ?_
  refine ai (qx (CK.g es 0).p (CK.g es 0).c (CK.g es 0).d (DK es) (nf (qD h3)) (aa.iw hB h1 (CK.g es 0).ch (List.mem_map_of_mem (qD h3)))) V.wG  rfl (.cons aE .nil) rfl ?_
  rintro _ _ ⟨rfl, rfl⟩
  rw [← pR, hh, aa.tv hh, ← hhd]
  refine rO bb 3 rfl ?_
  refine cB V.mZ rfl ?_
  intro b7
  refine aQ (aD V.iW rfl rfl (us := [_, _, _, _, _]) rfl rfl (by exact cZ) (by exact Nat.le_of_ble_eq_true rfl) rfl) ?_
  refine rO bb 7 rfl ?_
  refine oV (aA (bG rfl rfl) (fun q => q rfl)) ?_
  refine rO bb 8 rfl ?_
  refine ai (sb q13 c13 es (Row CK q13 es.length c13 es) (fun _ _ hh => hh.rd) hel (mg hB h1) hco (by omega)) V.Mj  rfl (.cons bK (.cons aE .nil)) rfl ?_
  rintro _ _ ⟨s, hs, rfl, rfl⟩
  refine rO bb 4 rfl ?_
  refine cB V.Gj rfl ?_
  intro b8
  refine aQ (aD V.yr rfl rfl (us := [_, _, _, _, _, _, _, _, _]) rfl rfl (by exact cZ) (by exact Nat.le_of_ble_eq_true rfl) rfl) ?_
  refine rO bb 6 rfl ?_
  refine oV (bX V.iW rfl jv (vs := [_, _, _, _, _]) rfl rfl) ?_
  refine oV (aF V.iH rfl) ?_
  refine aQ (aD V.iW rfl rfl (us := [_, _, _, _, _]) rfl rfl (by exact cZ) (by exact Nat.le_of_ble_eq_true rfl) rfl) ?_
  refine rO bb 4 rfl ?_
  obtain ⟨eP, eT, eD, ep, et⟩ := tR hs ho
  have hso := hs
  obtain ⟨_, _, _, _, _, hcp, hct, hrP, hrT⟩ := hso
  have hBP : ak.az s.P := eP ▸ aa.lL (aa.iw hB h1) _
  have hBT : ak.az s.T := eT ▸ aa.lL (aa.iw hB h1) _
  have hBD : ak.az s.D := eD ▸ aa.r3 (aa.iw hB h1)
  have hlP : s.P.length < 500000000 := by rw [eP]; exact Nat.lt_of_le_of_lt aa.mM (by omega)
  have hlT : s.T.length < 500000000 := by rw [eT]; exact Nat.lt_of_le_of_lt aa.mM (by omega)
  have hlD : s.D.length < 500000000 := by rw [eD]; exact Nat.lt_of_le_of_lt (aa.nX _) (by omega)
  have hn0 : s.hp = false → s.P = [] := fun q => by rw [eP]; exact aa.nY (ep.symm.trans q)
  have hn1 : s.ht = false → s.T = [] := fun q => by rw [eT]; exact aa.nY (et.symm.trans q)
  rw [← eP, ← ep] at ht
  refine rC bb 2 rfl ?_
  refine ai (ub h hd b8 s.pp s.P s.cp s.pt s.T s.ct s.pd s.D.length s.cd none 0 0 hlP s.hp false (decide_eq_false ht).symm) V.Kv  rfl (aw .nil) rfl ?_
  rintro _ _ ⟨rfl, rfl⟩
  refine rO bb 11 rfl ?_
  refine oV (bV V.mB V.k9 rfl (cs := [_, _, _]) rfl) ?_
  refine aQ (aD V.eX rfl rfl (us := [_, _, _]) rfl rfl (by exact Ow) (by exact Nat.le_of_ble_eq_true rfl) rfl) ?_
  refine rO bb 5 rfl ?_
  subst hr
  exact aj (dY V.eX rfl Jh rfl rfl) ⟨none, 0, 0, rfl, rfl, Nat.le_refl _, rfl⟩ ((ei (A := Row (aW 62 .u16) none 0 0 []) (fun w0 => Row.nil _ _ _)).trans (sub (aw (.cons kd .nil)) Oy))
 ·refine rC bb 3 rfl ?_
  refine ai (pI p c B R hR hl hB hcap l h1) V.zr  rfl (.cons aE .nil) rfl ?_
  rintro _ _ ⟨q13, c13, es, rfl, hel, hco, rfl, rfl⟩
  refine rO bb 11 rfl ?_
  refine oV (aA (bG rfl rfl) (fun q => q rfl)) ?_
  refine rO bb 7 rfl ?_
  refine iU (fun w hi => gY hi (show Row CK q13 es.length c13 es ∈ _ by exact an)) (fun hcq => ?_)
  refine rC bb 2 rfl ?_
  refine ai (nT q13 c13 es (Row CK q13 es.length c13 es) (fun _ _ hh => hh.rd) hel (mg hB h1) hcq) V.BK  rfl (aw .nil) rfl ?_
  rintro _ _ ⟨rfl, rfl⟩
  rw [aa.qI ho]
  refine rO bb 6 rfl ?_
  refine oV (aA (bG rfl rfl) (fun q => q rfl)) ?_
  refine rO bb 6 rfl ?_
  have h3 : 0 < es.length := by have := aa.vz ho; rw [List.length_map] at this; omega
  obtain ⟨h, hhd⟩ : ∃ h, h = aa.aO (aa.fJ (es.map Ce.ch)) := ⟨_, rfl⟩
  rw [← hhd] at ht
  obtain ⟨hde, hsz⟩ := aa.rP hh
  rw [← hhd] at hde hsz
  have hd := aa.iC hde
  have hcl := aa.uz h1
  refine rC bb 2 rfl ?_
  refine oV (xI V.gA (own an)) ?_
  refine oV (aF V.lu rfl) ?_
  refine oV (dU (c := (CK)) 1 V.eA rfl (own an) (by omega) (by omega) rfl rfl) ?_
  refine ai (qx (CK.g es 0).p (CK.g es 0).c (CK.g es 0).d (DK es) (nf (qD h3)) (aa.iw hB h1 (CK.g es 0).ch (List.mem_map_of_mem (qD h3)))) V.wG  rfl (.cons aE .nil) rfl ?_
  rintro _ _ ⟨rfl, rfl⟩
  rw [← pR, hh, aa.tv hh, ← hhd]
  refine rO bb 3 rfl ?_
  refine cB V.mZ rfl ?_
  intro b7
  refine aQ (aD V.iW rfl rfl (us := [_, _, _, _, _]) rfl rfl (by exact cZ) (by exact Nat.le_of_ble_eq_true rfl) rfl) ?_
  refine rO bb 7 rfl ?_
  refine oV (aA (bG rfl rfl) (fun q => q rfl)) ?_
  refine rO bb 8 rfl ?_
  refine ai (sb q13 c13 es (Row CK q13 es.length c13 es) (fun _ _ hh => hh.rd) hel (mg hB h1) hco (by omega)) V.Mj  rfl (.cons bK (.cons aE .nil)) rfl ?_
  rintro _ _ ⟨s, hs, rfl, rfl⟩
  refine rO bb 4 rfl ?_
  refine cB V.Gj rfl ?_
  intro b8
  refine aQ (aD V.yr rfl rfl (us := [_, _, _, _, _, _, _, _, _]) rfl rfl (by exact cZ) (by exact Nat.le_of_ble_eq_true rfl) rfl) ?_
  refine rO bb 6 rfl ?_
  refine oV (bX V.iW rfl jv (vs := [_, _, _, _, _]) rfl rfl) ?_
  refine oV (aF V.iH rfl) ?_
  refine aQ (aD V.iW rfl rfl (us := [_, _, _, _, _]) rfl rfl (by exact cZ) (by exact Nat.le_of_ble_eq_true rfl) rfl) ?_
  refine rO bb 4 rfl ?_
  obtain ⟨eP, eT, eD, ep, et⟩ := tR hs ho
  have hso := hs
  obtain ⟨_, _, _, _, _, hcp, hct, hrP, hrT⟩ := hso
  have hBP : ak.az s.P := eP ▸ aa.lL (aa.iw hB h1) _
  have hBT : ak.az s.T := eT ▸ aa.lL (aa.iw hB h1) _
  have hBD : ak.az s.D := eD ▸ aa.r3 (aa.iw hB h1)
  have hlP : s.P.length < 500000000 := by rw [eP]; exact Nat.lt_of_le_of_lt aa.mM (by omega)
  have hlT : s.T.length < 500000000 := by rw [eT]; exact Nat.lt_of_le_of_lt aa.mM (by omega)
  have hlD : s.D.length < 500000000 := by rw [eD]; exact Nat.lt_of_le_of_lt (aa.nX _) (by omega)
  have hn0 : s.hp = false → s.P = [] := fun q => by rw [eP]; exact aa.nY (ep.symm.trans q)
  have hn1 : s.ht = false → s.T = [] := fun q => by rw [eT]; exact aa.nY (et.symm.trans q)
  rw [← eP, ← ep] at ht
  rw [← hhd, ← eP, ← eT, ← et] at hc
  refine rC bb 2 rfl ?_
  refine ai (ub h hd b8 s.pp s.P s.cp s.pt s.T s.ct s.pd s.D.length s.cd none 0 0 hlP s.hp true (decide_eq_true ht).symm) V.Kv  rfl (aw .nil) rfl ?_
  rintro _ _ ⟨rfl, rfl⟩
  refine rO bb 3 rfl ?_
  refine ae rfl ?_
  refine ai (vW h hd b8 s.pp s.P s.cp s.pt s.T s.ct s.pd s.D.length s.cd hlP hlT hBT (DK es) hrT s.ht hn1 false (decide_eq_false hc).symm) V.Oi  rfl (aw (.cons bK .nil)) rfl ?_
  rintro _ _ ⟨pk, nk, ck, K, hK, hKn, rfl, rfl⟩
  refine rO bb 7 rfl ?_
  refine oV (bV V.mB V.k9 rfl (cs := [_, _, _]) rfl) ?_
  refine aQ (aD V.eX rfl rfl (us := [_, _, _]) rfl rfl (by exact OJ) (by exact Nat.le_of_ble_eq_true rfl) rfl) ?_
  refine rO bb 5 rfl ?_
  subst hr
  exact aj (dY V.eX rfl wq rfl rfl) ⟨none, 0, 0, rfl, rfl, Nat.le_refl _, rfl⟩ ((ei (A := Row (aW 62 .u16) none 0 0 []) (fun w0 => Row.nil _ _ _)).trans (sub (aw (.cons om .nil)) Ga))
 ·refine rC bb 3 rfl ?_
  refine ai (pI p c B R hR hl hB hcap l h1) V.zr  rfl (.cons aE .nil) rfl ?_
  rintro _ _ ⟨q13, c13, es, rfl, hel, hco, rfl, rfl⟩
  refine rO bb 11 rfl ?_
  refine oV (aA (bG rfl rfl) (fun q => q rfl)) ?_
  refine rO bb 7 rfl ?_
  refine iU (fun w hi => gY hi (show Row CK q13 es.length c13 es ∈ _ by exact an)) (fun hcq => ?_)
  refine rC bb 2 rfl ?_
  refine ai (nT q13 c13 es (Row CK q13 es.length c13 es) (fun _ _ hh => hh.rd) hel (mg hB h1) hcq) V.BK  rfl (aw .nil) rfl ?_
  rintro _ _ ⟨rfl, rfl⟩
  rw [aa.qI ho]
  refine rO bb 6 rfl ?_
  refine oV (aA (bG rfl rfl) (fun q => q rfl)) ?_
  refine rO bb 6 rfl ?_
  have h3 : 0 < es.length := by have := aa.vz ho; rw [List.length_map] at this; omega
  obtain ⟨h, hhd⟩ : ∃ h, h = aa.aO (aa.fJ (es.map Ce.ch)) := ⟨_, rfl⟩
  rw [← hhd] at ht
  obtain ⟨hde, hsz⟩ := aa.rP hh
  rw [← hhd] at hde hsz
  have hd := aa.iC hde
  have hcl := aa.uz h1
  refine rC bb 2 rfl ?_
  refine oV (xI V.gA (own an)) ?_
  refine oV (aF V.lu rfl) ?_
  refine oV (dU (c := (CK)) 1 V.eA rfl (own an) (by omega) (by omega) rfl rfl) ?_
  refine ai (qx (CK.g es 0).p (CK.g es 0).c (CK.g es 0).d (DK es) (nf (qD h3)) (aa.iw hB h1 (CK.g es 0).ch (List.mem_map_of_mem (qD h3)))) V.wG  rfl (.cons aE .nil) rfl ?_
  rintro _ _ ⟨rfl, rfl⟩
  rw [← pR, hh, aa.tv hh, ← hhd]
  refine rO bb 3 rfl ?_
  refine cB V.mZ rfl ?_
  intro b7
  refine aQ (aD V.iW rfl rfl (us := [_, _, _, _, _]) rfl rfl (by exact cZ) (by exact Nat.le_of_ble_eq_true rfl) rfl) ?_
  refine rO bb 7 rfl ?_
  refine oV (aA (bG rfl rfl) (fun q => q rfl)) ?_
  refine rO bb 8 rfl ?_
  refine ai (sb q13 c13 es (Row CK q13 es.length c13 es) (fun _ _ hh => hh.rd) hel (mg hB h1) hco (by omega)) V.Mj  rfl (.cons bK (.cons aE .nil)) rfl ?_
  rintro _ _ ⟨s, hs, rfl, rfl⟩
  refine rO bb 4 rfl ?_
  refine cB V.Gj rfl ?_
  intro b8
  refine aQ (aD V.yr rfl rfl (us := [_, _, _, _, _, _, _, _, _]) rfl rfl (by exact cZ) (by exact Nat.le_of_ble_eq_true rfl) rfl) ?_
  refine rO bb 6 rfl ?_
  refine oV (bX V.iW rfl jv (vs := [_, _, _, _, _]) rfl rfl) ?_
  refine oV (aF V.iH rfl) ?_
  refine aQ (aD V.iW rfl rfl (us := [_, _, _, _, _]) rfl rfl (by exact cZ) (by exact Nat.le_of_ble_eq_true rfl) rfl) ?_
  refine rO bb 4 rfl ?_
  obtain ⟨eP, eT, eD, ep, et⟩ := tR hs ho
  have hso := hs
  obtain ⟨_, _, _, _, _, hcp, hct, hrP, hrT⟩ := hso
  have hBP : ak.az s.P := eP ▸ aa.lL (aa.iw hB h1) _
  have hBT : ak.az s.T := eT ▸ aa.lL (aa.iw hB h1) _
  have hBD : ak.az s.D := eD ▸ aa.r3 (aa.iw hB h1)
  have hlP : s.P.length < 500000000 := by rw [eP]; exact Nat.lt_of_le_of_lt aa.mM (by omega)
  have hlT : s.T.length < 500000000 := by rw [eT]; exact Nat.lt_of_le_of_lt aa.mM (by omega)
  have hlD : s.D.length < 500000000 := by rw [eD]; exact Nat.lt_of_le_of_lt (aa.nX _) (by omega)
  have hn0 : s.hp = false → s.P = [] := fun q => by rw [eP]; exact aa.nY (ep.symm.trans q)
  have hn1 : s.ht = false → s.T = [] := fun q => by rw [eT]; exact aa.nY (et.symm.trans q)
  rw [← eP, ← ep] at ht
  rw [← hhd, ← eP, ← eT, ← et] at hc
  refine rC bb 2 rfl ?_
  refine ai (ub h hd b8 s.pp s.P s.cp s.pt s.T s.ct s.pd s.D.length s.cd none 0 0 hlP s.hp true (decide_eq_true ht).symm) V.Kv  rfl (aw .nil) rfl ?_
  rintro _ _ ⟨rfl, rfl⟩
  refine rO bb 3 rfl ?_
  refine ae rfl ?_
  refine ai (vW h hd b8 s.pp s.P s.cp s.pt s.T s.ct s.pd s.D.length s.cd hlP hlT hBT (DK es) hrT s.ht hn1 true (decide_eq_true hc).symm) V.Oi  rfl (aw (.cons bK .nil)) rfl ?_
  rintro _ _ ⟨pk, nk, ck, K, hK, rfl, rfl, rfl⟩
  obtain rfl := hK rfl
  refine rO bb 8 rfl ?_
  refine iU (fun w hi => gY hi (show Row U5 s.pd s.D.length s.cd s.D ∈ _ by exact eL)) (fun hcD => ?_)
  refine bo ?_
  refine ai (JX h b8 s.pp s.P s.cp s.pt s.T s.ct s.pd s.cd pk ck (DK es) hrP hrT hcp hBP hBT hlP hlT (Row (aW 3 .i64) pk (aa.bH h s.T).length ck (aa.bH h s.T)) (fun _ _ hh => hh.rd) (aa.GB hde hBP hBT hlP hlT ht hc hn0 hn1) hsz s.D hBD hlD hcD (Row U5 s.pd s.D.length s.cd s.D) (fun _ _ hh => hh.rd) z (by rw [eD, hhd]; exact hz)) V.Q4  rfl (bp (.cons aE (.cons dX .nil))) rfl ?_
  rintro _ _ ⟨q55, n55, c55, rfl, hn55, hc55, rfl⟩
  refine rO bb 2 rfl ?_
  refine aQ (aD V.eX rfl rfl (us := [_, _, _]) rfl rfl (by exact FY) (by exact Nat.le_of_ble_eq_true rfl) rfl) ?_
  refine rO bb 4 rfl ?_
  rw [aa.KV hhd eP eT] at hr
  subst hr
  exact aj (dY V.eX rfl jv rfl rfl) ⟨q55, n55, c55, rfl, hn55, hc55, rfl⟩ (sub (aw (.cons bK .nil)) n4)
end Go.Proofs.YtmaiakpjgomnpaaGreat
namespace Go.Proofs.YtmaiakpjgomnpaaGreat
open Go.Sl
theorem V.py : aJ Tryz.prog 18 = true := by kernel_rfl
theorem V.QF : aJ Tryz.prog 35 = true := by kernel_rfl
theorem V.Nw : bW Tryz.prog 38 4 = some 4 := by kernel_rfl
end Go.Proofs.YtmaiakpjgomnpaaGreat
namespace Go.Proofs.YtmaiakpjgomnpaaGreat
open Go.Sl 
theorem RH : dC Tryz.prog ⟨[22, 59, 64], [(38, 0, 0), (38, 1, 1), (38, 4, 4), (57, 0, 0), (57, 1, 1), (67, 0, 0), (67, 1, 1), (67, 2, 2), (67, 3, 3), (67, 4, 4), (67, 5, 5)]⟩ = true := by kernel_rfl
attribute [local irreducible] ak.az aa.bS aa.c4 aa.deep aa.parts HW aa.bH aa.je aa.fF aa.gC aa.gO aa.fz aa.l5 aa.k6 aa.gw aa.fh aa.gT aa.mq aa.want aa.bB aa.lO aa.nJ aa.nQ aa.j6 aL.nU aa.cm aa.bC aa.bZ aa.cD aa.dv aa.eY aa.jw aa.jJ aa.o9 aa.dr aa.dS aa.cut aa.fJ aa.wB aa.cI aa.fI
theorem He (w h : Int) (hs : aa.bS w h = 0) : aK Tryz.prog 35 [.int .i64 w, .int .i64 h] [] (aR fun v G => ∃ b : Nat, v = .tuple #[.agg #[.int .i64 w, .int .i64 h, .slice (some ⟨b, 0, none⟩) ((4 * w * h).toNat) ((4 * w * h).toNat)], .int .i64 0] ∧ G = [Row (aW 62 .u16) (some ⟨b, 0, none⟩) ((4 * w * h).toNat) ((4 * w * h).toNat) (List.replicate ((4 * w * h).toNat) 0)]) := by
  refine (Nk w h).mono ?_
  rintro e2 G ⟨v, rfl, (⟨h1, _⟩ | ⟨_, b, rfl, rfl⟩)⟩
  · exact absurd hs h1
  · exact ⟨_, rfl, b, rfl, rfl⟩
end Go.Proofs.YtmaiakpjgomnpaaGreat
namespace Go.Proofs.YtmaiakpjgomnpaaGreat
open Go.Sl
theorem V.Q7 : aJ Tryz.prog 62 = true := by kernel_rfl
end Go.Proofs.YtmaiakpjgomnpaaGreat
namespace Go.Proofs.YtmaiakpjgomnpaaGreat
open Go.Sl 
theorem ee : dC Tryz.prog ⟨[22, 59], [(57, 0, 0), (57, 1, 1)]⟩ = true := by kernel_rfl
attribute [local irreducible] ak.az aT.jo aT.iN ad.gh ad.gj aL.gl aL.kU aa.cP aa.cS aa.iD aa.il aa.cm aa.cD aa.dv aa.fx aa.ev aa.du aa.fR aa.two aa.hB aa.kc aa.ot aa.mC aa.parts
set_option maxHeartbeats 4000000 in
theorem Dk (p : Option Addr) (c : Nat) (B : List Int) (R : ab) (hR : ∀ w0 h, R w0 h → aS U5 p B.length B w0 h) (hl : B.length ≤ 4194304) (hcap : B.length ≤ c) : aK Tryz.prog 62 [.slice p B.length c] [R] (aR fun v G => ∃ q cq, v = .slice q (aT.iN B).length cq ∧ G = [Row U5 q (aT.iN B).length cq (aT.iN B), R]) := by
 refine ax [(0, _)] Tryz.func62 rfl Tryz.ntmps62 rfl rfl ?_
 intro w0 F
 refine rT ee 12 rfl ?_
 refine hH (Row U5 none 0 0 []) (Row.nil _ _ _) ?_
 refine yZ (fun (f : Nat) (pz : Option Addr) (cz : Nat) (Z : List Int) (po : Option Addr) (co : Nat) (O : List Int) => [(0, .slice pz Z.length cz), (3, .slice po O.length co)]) (fun (f : Nat) (pz : Option Addr) (cz : Nat) (Z : List Int) (po : Option Addr) (co : Nat) (O : List Int) => Row U5 po O.length co O :: R :: F) (fun (f : Nat) (pz : Option Addr) (cz : Nat) (Z : List Int) (po : Option Addr) (co : Nat) (O : List Int) => O ++ ad.gh (aT.jo f Z) = aT.iN B ∧ Z.length ≤ 65535 * (f + 1) ∧ (∀ w0 h, R w0 h → aS U5 pz Z.length Z w0 h) ∧ Z.length ≤ cz ∧ O.length + Z.length ≤ 2 * B.length + 5 * (65 - f) ∧ f ≤ 64) (fun (f : Nat) (pz : Option Addr) (cz : Nat) (Z : List Int) (po : Option Addr) (co : Nat) (O : List Int) => f) (i7 (64) (p) (c) (B) (none) (0) ([]) ?_ (kF ln) (sub (bp .nil) au)) ?_
 ·exact ⟨aT.Jx B, by omega, hR, hcap, by simp; omega, by omega⟩
 intro f pz cz Z po co O
 rintro ⟨hO, hZf, hZR, hZc, hOl, hf⟩
 refine rL ee 1 rfl ?_
 rcases (Nat.lt_or_ge 65535 Z.length) with hZ | hZ
 ·refine rC ee 4 rfl ?_
  refine oV (cN (v := .int .i64 65535) (Gl rfl rfl) (by rw [if_pos (by omega)])) ?_
  refine rO ee 14 rfl ?_
  refine oV (aA (av rfl rfl) (by omega)) ?_
  refine rO ee 10 rfl ?_
  refine oV (bE V.u3 Tryz.underlying5 rfl (ak.eB (65535 : Int))) ?_
  refine oV (aG rfl) ?_
  refine oV (eu (r := (65535 : Int) / 256) rfl rfl (by omega) (ak.nO (k := 8) (by decide) rfl)) ?_
  refine oV (bE V.u3 Tryz.underlying5 rfl (lq (by omega) (by omega))) ?_
  refine oV (aG rfl) ?_
  refine oV (rm (r := -(65535 : Int) - 1) rfl (ak.rh (by omega) (by omega))) ?_
  refine oV (bE V.u3 Tryz.underlying5 rfl ((ak.eB _).trans (show (-(65535 : Int) - 1) % 256 = 255 - (65535 : Int) % 256 from by omega))) ?_
  refine oV (aG rfl) ?_
  refine oV (rm (r := -(65535 : Int) - 1) rfl (ak.rh (by omega) (by omega))) ?_
  refine oV (eu (r := (-(65535 : Int) - 1) / 256) rfl rfl (by omega) (ak.nO (k := 8) (by decide) rfl)) ?_
  refine oV (bE V.u3 Tryz.underlying5 rfl ((ak.eB _).trans (show ((-(65535 : Int) - 1) / 256) % 256 = 255 - (65535 : Int) / 256 from by omega))) ?_
  refine ef (U5) [0, (65535 : Int) % 256, (65535 : Int) / 256, 255 - (65535 : Int) % 256, 255 - (65535 : Int) / 256] V.bP V.z5 rfl rfl rfl rfl rfl rfl ?_
  intro LN
  refine ek (c := (U5)) V.bP V.z5 rfl rfl rfl rfl aE (own an) (by omega) rfl ?_
  intro p28 c28
  refine rO ee 4 rfl ?_
  have hPR : ∀ w0 h, R w0 h → aS U5 pz 65535 (Z.take 65535) w0 h := lY (cap := 0) hZR 65535 (by omega)
  refine rC ee 4 rfl ?_
  refine oV (kn 65535 cz V.bP rfl ⟨_, rfl⟩ rfl (by omega) (by omega)) ?_
  refine ek (c := (U5)) V.bP V.z5 rfl rfl rfl rfl dX (by exact aY hPR cx) (by omega) rfl ?_
  intro p33 c33
  refine rO ee 7 rfl ?_
  refine oV (dW 65535 Z.length cz V.bP rfl ⟨_, rfl⟩ ⟨rfl, rfl⟩ rfl (by omega) (by omega) (by omega)) ?_
  refine rO ee 6 rfl ?_
  refine oV (aA (av rfl rfl) (by decide)) ?_
  refine rO ee 5 rfl ?_
  obtain ⟨f, rfl⟩ : ∃ f2, f = f2 + 1 := ⟨f - 1, by omega⟩
  have hnx := aT.D8 hO hZ
  have hle : (O ++ [0, (65535 : Int) % 256, (65535 : Int) / 256, 255 - (65535 : Int) % 256, 255 - (65535 : Int) / 256] ++ Z.take 65535).length = O.length + 5 + 65535 := by simp; omega
  have hdl : (Z.drop 65535).length = Z.length - 65535 := List.length_drop
  rw [← hdl, ← hle]
  exact j7 f _ _ (Z.drop 65535) _ _ _ ⟨⟨hnx, by omega, by rw [hdl]; exact gW hZR rfl 65535 cz (by omega) hZc, by omega, by omega, by omega⟩, by omega⟩ (.cons rfl (.cons rfl (.nil _))) (sub (.cons dX (.cons aE .nil)) cG)
 ·refine rC ee 4 rfl ?_
  refine oV (cN (v := .int .i64 (Z.length : Int)) (Gl rfl rfl) (by rw [if_neg (by omega)])) ?_
  refine rO ee 14 rfl ?_
  refine oV (aU (av rfl rfl) (by omega)) ?_
  refine rO ee 12 rfl ?_
  refine oV (bE V.u3 Tryz.underlying5 rfl (ak.eB (Z.length : Int))) ?_
  refine oV (aG rfl) ?_
  refine oV (eu (r := (Z.length : Int) / 256) rfl rfl (by omega) (ak.nO (k := 8) (by decide) rfl)) ?_
  refine oV (bE V.u3 Tryz.underlying5 rfl (lq (by omega) (by omega))) ?_
  refine oV (aG rfl) ?_
  refine oV (rm (r := -(Z.length : Int) - 1) rfl (ak.rh (by omega) (by omega))) ?_
  refine oV (bE V.u3 Tryz.underlying5 rfl ((ak.eB _).trans (show (-(Z.length : Int) - 1) % 256 = 255 - (Z.length : Int) % 256 from by omega))) ?_
  refine oV (aG rfl) ?_
  refine oV (rm (r := -(Z.length : Int) - 1) rfl (ak.rh (by omega) (by omega))) ?_
  refine oV (eu (r := (-(Z.length : Int) - 1) / 256) rfl rfl (by omega) (ak.nO (k := 8) (by decide) rfl)) ?_
  refine oV (bE V.u3 Tryz.underlying5 rfl ((ak.eB _).trans (show ((-(Z.length : Int) - 1) / 256) % 256 = 255 - (Z.length : Int) / 256 from by omega))) ?_
  refine ef (U5) [1, (Z.length : Int) % 256, (Z.length : Int) / 256, 255 - (Z.length : Int) % 256, 255 - (Z.length : Int) / 256] V.bP V.z5 rfl rfl rfl rfl rfl rfl ?_
  intro LN
  refine ek (c := (U5)) V.bP V.z5 rfl rfl rfl rfl aE (own an) (by omega) rfl ?_
  intro p28 c28
  refine rO ee 8 rfl ?_
  refine oV (kn Z.length cz V.bP rfl ⟨_, rfl⟩ rfl (by omega) (by omega)) ?_
  refine ek (c := (U5)) V.bP V.z5 rfl rfl rfl rfl dX (by exact aY hZR cx) (by omega) rfl ?_
  intro p33 c33
  refine rO ee 7 rfl ?_
  refine oV (dW Z.length Z.length cz V.bP rfl ⟨_, rfl⟩ ⟨rfl, rfl⟩ rfl (by omega) (by omega) (by omega)) ?_
  refine rO ee 6 rfl ?_
  refine oV (aU (av rfl rfl) (by decide)) ?_
  refine rO ee 15 rfl ?_
  have hnx := aT.D1 hO (by omega)
  have hle : (O ++ [1, (Z.length : Int) % 256, (Z.length : Int) / 256, 255 - (Z.length : Int) % 256, 255 - (Z.length : Int) / 256] ++ Z).length = O.length + 5 + Z.length := by simp; omega
  rw [hnx] at hle
  rw [← hle, hnx]
  exact aj (aC rfl) ⟨_, _, rfl, rfl⟩ (sub (aw (.cons aE .nil)) cG)
set_option maxHeartbeats 2000000 in
theorem GN (p : Option Addr) (c : Nat) (B : List Int) (R : ab) (hR : ∀ w0 h, R w0 h → aS U5 p B.length B w0 h) (hl : B.length ≤ 4194304) (hB : ak.az B) (hcap : B.length ≤ c) : aK Tryz.prog 27 [.slice p B.length c] [R] (aR fun v G => ∃ q cq, v = .slice q (aa.cP B).length cq ∧ G = [Row U5 q (aa.cP B).length cq (aa.cP B), R]) := by
 refine ax [(0, _)] Tryz.func27 rfl Tryz.ntmps27 rfl rfl ?_
 intro w0 F
 have hsl := aT.uy hl
 have ha := aL.vI B
 refine rT ee 7 rfl ?_
 refine ef (U5) [120, 1] V.bP V.z5 rfl rfl rfl rfl rfl rfl ?_
 intro b5
 refine oV (aG rfl) ?_
 refine ai (Dk p c B R hR hl hcap) V.Q7  rfl (.cons aE .nil) rfl ?_
 rintro _ _ ⟨qz, cz, rfl, rfl⟩
 refine ek (c := (U5)) V.bP V.z5 rfl rfl rfl rfl bK (own an) (by omega) rfl ?_
 intro p8 c8
 refine rO ee 6 rfl ?_
 refine ai (KU p c B R hR (by omega) hB) V.QM  rfl (.cons bK .nil) rfl ?_
 rintro _ _ ⟨rfl, rfl⟩
 refine rO ee 7 rfl ?_
 refine oV (eu (r := (aL.gl B) / 16777216) rfl rfl (by decide) (aa.ma (n := 24) rfl (by decide) rfl)) ?_
 refine oV (bE V.oc Tryz.underlying5 rfl ((aa.eB _).trans (by omega : (aL.gl B) / 16777216 % 256 = (aL.gl B) / 16777216))) ?_
 refine oV (aG rfl) ?_
 refine oV (eu (r := (aL.gl B) / 65536) rfl rfl (by decide) (aa.ma (n := 16) rfl (by decide) rfl)) ?_
 refine oV (bE V.oc Tryz.underlying5 rfl (aa.eB _)) ?_
 refine oV (aG rfl) ?_
 refine oV (eu (r := (aL.gl B) / 256) rfl rfl (by decide) (aa.ma (n := 8) rfl (by decide) rfl)) ?_
 refine oV (bE V.oc Tryz.underlying5 rfl (aa.eB _)) ?_
 refine oV (aG rfl) ?_
 refine oV (bE V.oc Tryz.underlying5 rfl (aa.eB _)) ?_
 refine ef (U5) [(aL.gl B) / 16777216, (aL.gl B) / 65536 % 256, (aL.gl B) / 256 % 256, (aL.gl B) % 256] V.bP V.z5 rfl rfl rfl rfl rfl rfl ?_
 intro Of
 refine ek (c := (U5)) V.bP V.z5 rfl rfl rfl rfl bK (own an) (by omega) rfl ?_
 intro p24 c24
 refine rO ee 4 rfl ?_
 have hle : 2 + (aT.iN B).length + 4 = (aa.cP B).length := by rw [aa.pY hl]; omega
 rw [hle, show [120, 1] ++ aT.iN B ++ [(aL.gl B) / 16777216, (aL.gl B) / 65536 % 256, (aL.gl B) / 256 % 256, (aL.gl B) % 256] = aa.cP B from by unfold aa.cP aL.kU; rfl]
 exact aj (aC rfl) ⟨_, _, rfl, rfl⟩ (sub (aw (.cons aE .nil)) fS)
set_option maxHeartbeats 8000000 in
theorem Mc (p : Option Addr) (c : Nat) (es : List Ce) (R : ab) (hR : ∀ w0 h, R w0 h → aS bJ p es.length es w0 h) (hel : es.length ≤ 262144) (hok : ∀ x ∈ es, aa.mC x.ch) (hj : (aa.cS (es.map Ce.ch)).length ≤ 262144) : aK Tryz.prog 28 [.slice p es.length c] [R, DK es] (aR fun v G => ∃ q cq, v = .tuple #[.slice q (aa.cS (es.map Ce.ch)).length cq, .int .i64 0] ∧ G = [Row U5 q (aa.cS (es.map Ce.ch)).length cq (aa.cS (es.map Ce.ch)), R, DK es]) := by
 refine ax [(0, _)] Tryz.func28 rfl Tryz.ntmps28 rfl rfl ?_
 intro w0 F
 refine rT ee 8 rfl ?_
 refine ai (LQ) V.Q8  rfl .nil rfl ?_
 rintro _ _ ⟨rfl, rfl⟩
 refine w3 Tryz.underlying9 Tryz.underlying22 Tryz.underlying5 rfl (aa.ba aa.se) rfl ?_
 intro b10 c10
 refine rO ee 15 rfl ?_
 rw [show aa.fx = aa.cS ((es.map Ce.ch).take 0) from (aa.IH _).symm]
 refine j0 (fun (i : Nat) (po : Option Addr) (co : Nat) => [(0, .slice p es.length c), (4, .slice po (aa.cS ((es.map Ce.ch).take i)).length co), (5, .bool false), (6, .int .i64 (i : Int))]) (fun (i : Nat) (po : Option Addr) (co : Nat) => Row U5 po (aa.cS ((es.map Ce.ch).take i)).length co (aa.cS ((es.map Ce.ch).take i)) :: R :: DK es :: F) (fun (i : Nat) (po : Option Addr) (co : Nat) => i ≤ es.length) (fun (i : Nat) (po : Option Addr) (co : Nat) => es.length - i) (i3 (0) (_) (_) ?_ (eN ln) (sub (im .nil) au)) ?_
 ·exact Nat.zero_le _
 intro i po co
 rintro hi
 refine rL ee 9 rfl ?_
 refine aP rfl (fun h14 => ?_) (fun h14 => ?_)
 ·refine rC ee 6 rfl ?_
  have hcx := pV (es := es) (i := i) (by omega)
  have hxm := mR (i := i) (fun x => x ∈ es) (fun x hx => hx) (by omega)
  have hxo := hok _ hxm
  unfold aa.mC at hxo
  have hxn : aa.ev (bJ.g es (i : Int)).k := hxo.1
  have hxk : ak.az (bJ.g es (i : Int)).k := aa.rq hxn
  have hxl := aa.zi hxn
  have hxB : ak.az (bJ.g es (i : Int)).d := hxo.2.1
  have hjs := aa.Lx hcx
  have hjl := aa.join_le (es.map Ce.ch) (i + 1)
  have hjl2 : (aa.cS ((es.map Ce.ch).take (i + 1))).length = (aa.cS ((es.map Ce.ch).take i)).length + (aa.iD (bJ.g es (i : Int)).ch).length := by rw [hjs, List.length_append]
  have hcb : (aa.iD (bJ.g es (i : Int)).ch).length = 4 + (bJ.g es (i : Int)).k.length + (bJ.g es (i : Int)).d.length + 4 := aa.EB _
  refine rC ee 3 rfl ?_
  refine oV (xI V.nK (by exact aY hR bY)) ?_
  refine oV (aF V.sP rfl) ?_
  refine oV (dU (c := (bJ)) 0 V.s9 rfl (by exact aY hR bY) (by omega) (by omega) rfl rfl) ?_
  refine ai (BN (bJ.g es (i : Int)).k hxk (by omega) true (decide_eq_true hxn).symm) V.Rm  rfl .nil rfl ?_
  rintro _ _ ⟨rfl, rfl⟩
  refine rO ee 10 rfl ?_
  refine oV (xI V.nK (by exact aY hR bY)) ?_
  refine oV (aF V.vB rfl) ?_
  refine oV (dU (c := (bJ)) 1 V.eA rfl (by exact aY hR bY) (by omega) (by omega) rfl rfl) ?_
  refine rO ee 9 rfl ?_
  refine ae rfl ?_
  refine oV (aA (bj rfl rfl) (by omega)) ?_
  refine rO ee 4 rfl ?_
  refine ae rfl ?_
  refine oV (aA (bj rfl rfl) (by omega)) ?_
  refine rO ee 17 rfl ?_
  refine oV (eu (r := ((bJ.g es (i : Int)).d.length : Int) / 16777216) rfl rfl (by decide) (ak.nO (k := 24) (by decide) rfl)) ?_
  refine oV (bE V.u3 Tryz.underlying5 rfl (ak.eB _)) ?_
  refine oV (aG rfl) ?_
  refine oV (eu (r := ((bJ.g es (i : Int)).d.length : Int) / 65536) rfl rfl (by decide) (ak.nO (k := 16) (by decide) rfl)) ?_
  refine oV (bE V.u3 Tryz.underlying5 rfl (ak.eB _)) ?_
  refine oV (aG rfl) ?_
  refine oV (eu (r := ((bJ.g es (i : Int)).d.length : Int) / 256) rfl rfl (by decide) (ak.nO (k := 8) (by decide) rfl)) ?_
  refine oV (bE V.u3 Tryz.underlying5 rfl (ak.eB _)) ?_
  refine oV (aG rfl) ?_
  refine oV (bE V.u3 Tryz.underlying5 rfl (ak.eB _)) ?_
  refine ef (U5) [((bJ.g es (i : Int)).d.length : Int) / 16777216 % 256, ((bJ.g es (i : Int)).d.length : Int) / 65536 % 256, ((bJ.g es (i : Int)).d.length : Int) / 256 % 256, ((bJ.g es (i : Int)).d.length : Int) % 256] V.bP V.z5 rfl rfl rfl rfl rfl rfl ?_
  intro b53
  refine ek (c := (U5)) V.bP V.z5 rfl rfl rfl rfl aE (own an) (by omega) rfl ?_
  intro p54 c54
  refine rO ee 4 rfl ?_
  refine kW [pz 0 [] [4], pz 0 [] [0], pz 0 [] [6], pz 6 [1, 2] [], pz 14 [3] [], pz 30 [4] [], pz 63 [0, 5] [], pz 0 [] [0], pz 0 [] [6], pz 384 [7, 8] [], pz 896 [9] [], pz 1920 [10] [], pz 4095 [6, 11] [], pz 8191 [12] []] [⟨fun y => Row U5 p54 ((aa.cS ((es.map Ce.ch).take i)).length + 4) c54 ((aa.cS ((es.map Ce.ch).take i)) ++ [((bJ.g es (i : Int)).d.length : Int) / 16777216 % 256, ((bJ.g es (i : Int)).d.length : Int) / 65536 % 256, ((bJ.g es (i : Int)).d.length : Int) / 256 % 256, ((bJ.g es (i : Int)).d.length : Int) % 256]), none, some 6, []⟩, ⟨fun y => Row U5 (some ⟨b53, 0, none⟩) 4 4 [((bJ.g es (i : Int)).d.length : Int) / 16777216 % 256, ((bJ.g es (i : Int)).d.length : Int) / 65536 % 256, ((bJ.g es (i : Int)).d.length : Int) / 256 % 256, ((bJ.g es (i : Int)).d.length : Int) % 256], none, none, []⟩, ⟨fun y => R, none, none, [3, 5, 9, 11]⟩, ⟨fun y => DK es, none, none, [12]⟩, ⟨fun y => Row (U5) (gu (y 6)) (((aa.cS ((es.map Ce.ch).take i)).length + 4) + ((bJ.g es (i : Int)).k).length) (iK (y 6)) (((aa.cS ((es.map Ce.ch).take i)) ++ [((bJ.g es (i : Int)).d.length : Int) / 16777216 % 256, ((bJ.g es (i : Int)).d.length : Int) / 65536 % 256, ((bJ.g es (i : Int)).d.length : Int) / 256 % 256, ((bJ.g es (i : Int)).d.length : Int) % 256]) ++ ((bJ.g es (i : Int)).k)), some 6, some 12, []⟩, ⟨fun y => Row (U5) (gu (y 12)) ((((aa.cS ((es.map Ce.ch).take i)).length + 4) + ((bJ.g es (i : Int)).k).length) + (bJ.g es (i : Int)).d.length) (iK (y 12)) ((((aa.cS ((es.map Ce.ch).take i)) ++ [((bJ.g es (i : Int)).d.length : Int) / 16777216 % 256, ((bJ.g es (i : Int)).d.length : Int) / 65536 % 256, ((bJ.g es (i : Int)).d.length : Int) / 256 % 256, ((bJ.g es (i : Int)).d.length : Int) % 256]) ++ ((bJ.g es (i : Int)).k)) ++ (bJ.g es (i : Int)).d), some 12, none, []⟩] F V.mixed (by kernel_rfl) rfl (fun _ => .refl _) (cg _ (cg _ (cg _ (cg _ (eh _ rfl (by intro y y2 h; simp only [h 6 (.inl rfl)]) (eh _ rfl (by intro y y2 h; simp only [h 12 (.inl rfl)]) gX)))))) ?_
  iterate 3 refine nM ?_
  refine nR (fun y FF hA => xI V.nK (by exact aY hR an)) ?_
  refine nG V.sP ?_
  refine nR (fun y FF hA => dU (c := (bJ)) 0 V.s9 rfl (by exact aY hR an) (by omega) (by omega) rfl rfl) ?_
  refine gD (fun y v => .slice (gu v) (((aa.cS ((es.map Ce.ch).take i)).length + 4) + ((bJ.g es (i : Int)).k).length) (iK v)) (fun y v => True) _ _ (fun y v => [Row (U5) (gu v) (((aa.cS ((es.map Ce.ch).take i)).length + 4) + ((bJ.g es (i : Int)).k).length) (iK v) (((aa.cS ((es.map Ce.ch).take i)) ++ [((bJ.g es (i : Int)).d.length : Int) / 16777216 % 256, ((bJ.g es (i : Int)).d.length : Int) / 65536 % 256, ((bJ.g es (i : Int)).d.length : Int) / 256 % 256, ((bJ.g es (i : Int)).d.length : Int) % 256]) ++ ((bJ.g es (i : Int)).k))]) _ (fun y => rfl) (fun y => rfl) (fun y => rfl) (fun y => rfl) (fun y FF hA => tZ (Ax (T := 5) V.bP Tryz.underlying9 V.z5 rfl rfl rfl (aa.ba hxk) dX (by omega)) (.refl _)) (by intros; rfl) (by intros; rfl) (by intros; rfl) (by intro y y2 h; simp only [h 6 (.inl rfl)]) (by intro y y2 h; rfl) ?_
  iterate 2 refine nM ?_
  refine nR (fun y FF hA => xI V.nK (by exact aY hR an)) ?_
  refine nG V.vB ?_
  refine nR (fun y FF hA => dU (c := (bJ)) 1 V.eA rfl (by exact aY hR an) (by omega) (by omega) rfl rfl) ?_
  refine gD (fun y v => .slice (gu v) ((((aa.cS ((es.map Ce.ch).take i)).length + 4) + ((bJ.g es (i : Int)).k).length) + (bJ.g es (i : Int)).d.length) (iK v)) (fun y v => True) _ _ (fun y v => [Row (U5) (gu v) ((((aa.cS ((es.map Ce.ch).take i)).length + 4) + ((bJ.g es (i : Int)).k).length) + (bJ.g es (i : Int)).d.length) (iK v) ((((aa.cS ((es.map Ce.ch).take i)) ++ [((bJ.g es (i : Int)).d.length : Int) / 16777216 % 256, ((bJ.g es (i : Int)).d.length : Int) / 65536 % 256, ((bJ.g es (i : Int)).d.length : Int) / 256 % 256, ((bJ.g es (i : Int)).d.length : Int) % 256]) ++ ((bJ.g es (i : Int)).k)) ++ (bJ.g es (i : Int)).d)]) _ (fun y => rfl) (fun y => rfl) (fun y => rfl) (fun y => rfl) (fun y FF hA => tZ (qn (c := (U5)) V.bP V.z5 rfl rfl rfl rfl dX (LU (f := JT) bY hxm) (by omega)) (.refl _)) (by intros; rfl) (by intros; rfl) (by intros; rfl) (by intro y y2 h; simp only [h 6 (.inr (by decide)), h 12 (.inl rfl)]) (by intro y y2 h; rfl) ?_
  refine bU _ (fun y => rfl) rfl rfl rfl (fun y hA L => dp (ed rfl) ⟨rfl, rfl⟩) (by intros; rfl) (by intro y y2 h; simp only [h 12 (.inr (by decide))]) ?_
  refine aX ?_
  intro y hA
  clear hA
  refine bu ?_
  refine cy _ (.cons (d := 0) rfl (.cons (d := 4) rfl (.cons (d := 5) rfl (.cons (d := 6) rfl (.nil _))))) ?_
  refine bR (M := Row U5 (some ⟨b53, 0, none⟩) 4 4 [((bJ.g es (i : Int)).d.length : Int) / 16777216 % 256, ((bJ.g es (i : Int)).d.length : Int) / 65536 % 256, ((bJ.g es (i : Int)).d.length : Int) / 256 % 256, ((bJ.g es (i : Int)).d.length : Int) % 256] :: R :: DK es :: Row (U5) (gu (y 12)) ((((aa.cS ((es.map Ce.ch).take i)).length + 4) + ((bJ.g es (i : Int)).k).length) + (bJ.g es (i : Int)).d.length) (iK (y 12)) ((((aa.cS ((es.map Ce.ch).take i)) ++ [((bJ.g es (i : Int)).d.length : Int) / 16777216 % 256, ((bJ.g es (i : Int)).d.length : Int) / 65536 % 256, ((bJ.g es (i : Int)).d.length : Int) / 256 % 256, ((bJ.g es (i : Int)).d.length : Int) % 256]) ++ ((bJ.g es (i : Int)).k)) ++ (bJ.g es (i : Int)).d) :: F) (fun _ _ h => h) ?_
  refine bR (sub .nil (.skip (.keep (.keep (.keep .refl))))) ?_
  simp only [List.nil_append]
  generalize (gu (y 6)) = p61
  generalize (iK (y 6)) = c61
  generalize (gu (y 12)) = p67
  generalize (iK (y 12)) = c67
  refine rC ee 1 rfl ?_
  refine wN [pz 0 [] [0], pz 0 [] [6], pz 3 [0, 1] [], pz 7 [2] [], pz 15 [3] [], pz 0 [] [0], pz 0 [] [6], pz 96 [5, 6] [], pz 224 [7] [], pz 480 [8] [], pz 1023 [4, 9] [], pz 2047 [10] []] [⟨fun y => R, none, none, [2, 4, 7, 9]⟩, ⟨fun y => DK es, none, none, [10]⟩, ⟨fun y => Row U5 p67 ((aa.cS ((es.map Ce.ch).take i)).length + 4 + (bJ.g es (i : Int)).k.length + (bJ.g es (i : Int)).d.length) c67 ((aa.cS ((es.map Ce.ch).take i)) ++ [((bJ.g es (i : Int)).d.length : Int) / 16777216 % 256, ((bJ.g es (i : Int)).d.length : Int) / 65536 % 256, ((bJ.g es (i : Int)).d.length : Int) / 256 % 256, ((bJ.g es (i : Int)).d.length : Int) % 256] ++ (bJ.g es (i : Int)).k ++ (bJ.g es (i : Int)).d), none, none, []⟩] F V.mixed ?_
  iterate 2 refine nM ?_
  refine nR (fun y FF hA => xI V.nK (by exact aY hR an)) ?_
  refine nG V.sP ?_
  refine nR (fun y FF hA => dU (c := (bJ)) 0 V.s9 rfl (by exact aY hR an) (by omega) (by omega) rfl rfl) ?_
  iterate 2 refine nM ?_
  refine nR (fun y FF hA => xI V.nK (by exact aY hR an)) ?_
  refine nG V.vB ?_
  refine nR (fun y FF hA => dU (c := (bJ)) 1 V.eA rfl (by exact aY hR an) (by omega) (by omega) rfl rfl) ?_
  refine nE (fun y FF hA => bM (Post := [DK es]) (E4 (bJ.g es (i : Int)).k hxk (by omega) (bJ.g es (i : Int)).p (bJ.g es (i : Int)).c (bJ.g es (i : Int)).d.length (bJ.g es (i : Int)).d (DK es) (nf hxm) rfl (by omega) hxB) V.Q3 rfl (aw .nil) (fun v G h => by rcases h with ⟨rfl, rfl⟩; exact ⟨rfl, .refl _⟩)) ?_
  refine nA ?_
  refine aX ?_
  intro y hA
  clear hA
  refine bu ?_
  refine cy _ (.cons (d := 0) rfl (.cons (d := 4) rfl (.cons (d := 5) rfl (.cons (d := 6) rfl (.cons (d := 8) rfl (.nil _)))))) ?_
  refine bR (M := R :: DK es :: Row U5 p67 ((aa.cS ((es.map Ce.ch).take i)).length + 4 + (bJ.g es (i : Int)).k.length + (bJ.g es (i : Int)).d.length) c67 ((aa.cS ((es.map Ce.ch).take i)) ++ [((bJ.g es (i : Int)).d.length : Int) / 16777216 % 256, ((bJ.g es (i : Int)).d.length : Int) / 65536 % 256, ((bJ.g es (i : Int)).d.length : Int) / 256 % 256, ((bJ.g es (i : Int)).d.length : Int) % 256] ++ (bJ.g es (i : Int)).k ++ (bJ.g es (i : Int)).d) :: F) (fun _ _ h => h) ?_
  refine rC ee 3 rfl ?_
  refine oV (eu (r := (aa.il (bJ.g es (i : Int)).k (bJ.g es (i : Int)).d) / 16777216) rfl rfl (by decide) (aa.ma (n := 24) rfl (by decide) rfl)) ?_
  refine oV (bE V.oc Tryz.underlying5 rfl (aa.eB _)) ?_
  refine oV (aG rfl) ?_
  refine oV (eu (r := (aa.il (bJ.g es (i : Int)).k (bJ.g es (i : Int)).d) / 65536) rfl rfl (by decide) (aa.ma (n := 16) rfl (by decide) rfl)) ?_
  refine oV (bE V.oc Tryz.underlying5 rfl (aa.eB _)) ?_
  refine oV (aG rfl) ?_
  refine oV (eu (r := (aa.il (bJ.g es (i : Int)).k (bJ.g es (i : Int)).d) / 256) rfl rfl (by decide) (aa.ma (n := 8) rfl (by decide) rfl)) ?_
  refine oV (bE V.oc Tryz.underlying5 rfl (aa.eB _)) ?_
  refine oV (aG rfl) ?_
  refine oV (bE V.oc Tryz.underlying5 rfl (aa.eB _)) ?_
  refine ef (U5) [(aa.il (bJ.g es (i : Int)).k (bJ.g es (i : Int)).d) / 16777216 % 256, (aa.il (bJ.g es (i : Int)).k (bJ.g es (i : Int)).d) / 65536 % 256, (aa.il (bJ.g es (i : Int)).k (bJ.g es (i : Int)).d) / 256 % 256, (aa.il (bJ.g es (i : Int)).k (bJ.g es (i : Int)).d) % 256] V.bP V.z5 rfl rfl rfl rfl rfl rfl ?_
  intro zc
  refine ek (c := (U5)) V.bP V.z5 rfl rfl rfl rfl eg (own an) (by omega) rfl ?_
  intro p92 c92
  refine cV ee 9 rfl (by omega) ?_
  have hfin := aa.LZ (J := (aa.cS ((es.map Ce.ch).take i))) (k := (bJ.g es (i : Int)).k) (d := (bJ.g es (i : Int)).d) (n := ((bJ.g es (i : Int)).d.length : Int)) (s := (aa.il (bJ.g es (i : Int)).k (bJ.g es (i : Int)).d)) rfl rfl
  rw [show (aa.Ch.mk (bJ.g es (i : Int)).k (bJ.g es (i : Int)).d) = (bJ.g es (i : Int)).ch from rfl, ← hjs] at hfin
  rw [hfin, show (aa.cS ((es.map Ce.ch).take i)).length + 4 + (bJ.g es (i : Int)).k.length + (bJ.g es (i : Int)).d.length + 4 = (aa.cS ((es.map Ce.ch).take (i + 1))).length from by omega]
  exact j3 (i + 1) _ _ ⟨by omega, by omega⟩ (eN ln) (sub (aw (.cons aE (.cons aE .nil))) cG)
 ·refine rC ee 7 rfl ?_
  obtain rfl : i = es.length := by omega
  rw [show (es.map Ce.ch).take es.length = (es.map Ce.ch) from List.take_of_length_le (by rw [List.length_map]; exact Nat.le_refl _)]
  refine rC ee 5 rfl ?_
  refine ae rfl ?_
  refine oV (aA (bj rfl rfl) (by omega)) ?_
  refine rO ee 14 rfl ?_
  exact aj (fH rfl rfl) ⟨_, _, rfl, rfl⟩ (sub (im .nil) au)
end Go.Proofs.YtmaiakpjgomnpaaGreat
namespace Go.Proofs.YtmaiakpjgomnpaaGreat
open Go.Sl
theorem V.Of : aJ Tryz.prog 23 = true := by kernel_rfl
theorem V.LN : aJ Tryz.prog 27 = true := by kernel_rfl
theorem V.Rp : aJ Tryz.prog 28 = true := by kernel_rfl
theorem V.OF : kt Tryz.prog 62 = true := by kernel_rfl
end Go.Proofs.YtmaiakpjgomnpaaGreat
namespace Go.Proofs.YtmaiakpjgomnpaaGreat
open Go.Sl 
theorem gI : dC Tryz.prog ⟨[24], [(26, 0, 0), (26, 1, 1), (26, 2, 2)]⟩ = true := by kernel_rfl
attribute [local irreducible] ak.az aT.iN aa.cP aa.cS aa.iD aa.ev aa.du aa.kK aa.fR aa.two aa.kc aa.ot aa.mC aa.parts
abbrev sH (P : List Int) (W H : Nat) (b : Nat) (q : Option Addr) (c : Nat) : List Ce := [Ce.mk aa.dv (some ⟨b, 0, none⟩) 13 (aa.hB (W : Int) (H : Int)), Ce.mk aa.cm q c (aa.cP (aa.du P W H)), Ce.mk aa.cD none 0 []]
theorem K4 {P : List Int} {W H : Nat} (s : aa.Sz P W H) (b : Nat) (q : Option Addr) (c : Nat) : ∀ x ∈ sH P W H b q c, aa.mC x.ch := fun x hx => by
 simp only [sH, List.mem_cons, List.not_mem_nil, or_false] at hx
 rcases hx with rfl | rfl | rfl
 ·exact (aa.tn s _ (List.mem_cons_self ..)).1
 ·exact (aa.tn s _ (List.mem_cons_of_mem _ (List.mem_cons_self ..))).1
 ·exact aa.ud
theorem Gn (P : List Int) (W H : Nat) (b : Nat) (q : Option Addr) (c : Nat) : aa.cS ((sH P W H b q c).map Ce.ch) = aa.fR P W H := by
 unfold aa.fR aa.lH
 rfl
theorem LX {P : List Int} {W H : Nat} {b : Nat} {q : Option Addr} {c c1 : Nat} {w0 : World} {h : Hp} (hh : dq w0 [Row U5 (some ⟨b, 0, none⟩) 13 c1 (aa.hB (W : Int) (H : Int)), Row U5 q (aa.cP (aa.du P W H)).length c (aa.cP (aa.du P W H))] h) : DK (sH P W H b q c) w0 h := by
 obtain ⟨h1, h2, _, l1, l2, a, h3, h4, _, l3, l4, d, _⟩ := hh
 intro x hx
 simp only [sH, List.mem_cons, List.not_mem_nil, or_false] at hx
 rcases hx with rfl | rfl | rfl
 ·exact (Row.Ix a).mono l1
 ·exact (Row.Ix d).mono (Hp.le_trans l3 l2)
 ·exact ⟨rfl, .inl rfl⟩
set_option maxHeartbeats 8000000 in
theorem HD (P : List Int) (W H : Nat) (hs : aa.Sz P W H) (q : Option Addr) (cc : Nat) (hcap : P.length ≤ cc) (R : ab) (hR : ∀ w0 h, R w0 h → aS (aW 62 .u16) q P.length P w0 h) : aK Tryz.prog 22 [.agg #[.int .i64 (W : Int), .int .i64 (H : Int), .slice q P.length cc]] [R] (aR fun v G => ∃ q2 c2, v = .slice q2 (aa.fR P W H).length c2 ∧ G = [Row U5 q2 (aa.fR P W H).length c2 (aa.fR P W H), R]) := by
 refine ax [(0, _)] Tryz.func22 rfl Tryz.ntmps22 rfl rfl ?_
 intro w0 F
 have hn := aa.PJ hs
 have hw := hs.w
 have hh := hs.h
 refine rT gI 2 rfl ?_
 refine eU rfl (cs := [_, _, _]) rfl rfl ?_
 intro b1
 refine rO gI 15 rfl ?_
 refine hH (Row U5 none 0 0 []) (Row.nil _ _ _) ?_
 rw [show Row U5 none 0 0 [] = Row U5 none (aa.du P W 0).length 0 (aa.du P W 0) from by unfold aa.du; rfl, show ((3 : Nat), Value.slice none 0 0) = (3, .slice none (aa.du P W 0).length 0) from by unfold aa.du; rfl]
 refine j0 (fun (y : Nat) (po : Option Addr) (co : Nat) => [(1, .pointer (some ⟨b1, 0, none⟩)), (3, .slice po (aa.du P W y).length co), (4, .int .i64 (y : Int))]) (fun (y : Nat) (po : Option Addr) (co : Nat) => Row U5 po (aa.du P W y).length co (aa.du P W y) :: ao b1 26 [.int .i64 (W : Int), .int .i64 (H : Int), .slice q P.length cc] :: R :: F) (fun (y : Nat) (po : Option Addr) (co : Nat) => y ≤ H) (fun (y : Nat) (po : Option Addr) (co : Nat) => H - y) (i3 (0) (none) (0) ?_ (jm ln) (sub (im .nil) au)) ?_
 ·exact Nat.zero_le _
 intro y po co
 rintro hy
 refine rL gI 5 rfl ?_
 refine oV (af V.s3 rfl bY rfl) ?_
 refine rO gI 3 rfl ?_
 refine aP rfl (fun h13 => ?_) (fun h13 => ?_)
 ·refine rC gI 5 rfl ?_
  have hle := aa.za (y := y) hs (by omega)
  refine rC gI 2 rfl ?_
  refine ef (U5) [0] V.bP V.z5 rfl rfl rfl rfl rfl rfl ?_
  intro wG
  refine ek (c := (U5)) V.bP V.z5 rfl rfl rfl rfl aE (own an) (by omega) rfl ?_
  intro p18 c18
  refine rO gI 9 rfl ?_
  rw [show (aa.du P W y).length + 1 = (aa.kK P W y 0).length from by rw [← aa.BS, List.length_append]; rfl, aa.BS]
  refine j0 (fun (i : Nat) (pi : Option Addr) (ci : Nat) => [(1, .pointer (some ⟨b1, 0, none⟩)), (3, .slice pi (aa.kK P W y i).length ci), (4, .int .i64 (y : Int)), (5, .int .i64 (i : Int))]) (fun (i : Nat) (pi : Option Addr) (ci : Nat) => Row U5 pi (aa.kK P W y i).length ci (aa.kK P W y i) :: ao b1 26 [.int .i64 (W : Int), .int .i64 (H : Int), .slice q P.length cc] :: R :: F) (fun (i : Nat) (pi : Option Addr) (ci : Nat) => i ≤ 4 * W) (fun (i : Nat) (pi : Option Addr) (ci : Nat) => 4 * W - i) (i3 (0) (_) (_) ?_ (eN ln) (sub (aw (.cons aE (.cons aE .nil))) cG)) ?_
  ·exact Nat.zero_le _
  intro i pi ci
  rintro hi
  refine rL gI 5 rfl ?_
  refine oV (af V.s3 rfl bY rfl) ?_
  refine cV gI 4 rfl (by omega) ?_
  refine aP rfl (fun h23 => ?_) (fun h23 => ?_)
  ·refine rC gI 5 rfl ?_
   have hsg := aa.Bg (y := y) (i := i) hs.len (by omega) (by omega)
   have hWy : 4 * (W : Int) * (y : Int) = ((4 * W * y : Nat) : Int) := by rw [Int.natCast_mul, Int.natCast_mul]; rfl
   have hq : (aW 62 .u16).g P (((4 * W * y : Nat) : Int) + (i : Int)) = (P.getD (4 * W * y + i) 0) := gE (4 * W * y + i) (by omega)
   have hv := hs.u.get (4 * W * y + i)
   refine rC gI 2 rfl ?_
   refine oV (af V.qp rfl bY rfl) ?_
   refine oV (aF V.tF rfl) ?_
   refine oV (af V.s3 rfl bY rfl) ?_
   refine cV gI 2 rfl (by omega) ?_
   refine oV (jQ (r := ((4 * W * y : Nat) : Int)) rfl rfl (by rw [hWy]; exact gU (by omega) (by omega))) ?_
   refine cV gI 2 rfl (by omega) ?_
   refine oV (xI V.hI (by exact aY hR cx)) ?_
   refine oV (xL V.lG (by exact aY hR cx)) ?_
   rw [hq]
   refine rO gI 3 rfl ?_
   have hle := aa.Ii (y := y) (i := i) hs (by omega) (by omega)
   refine rC gI 3 rfl ?_
   refine oV (eu (r := (P.getD (4 * W * y + i) 0) / 256) rfl rfl (by decide) (ak.nO (k := 8) (by decide) rfl)) ?_
   refine oV (bE V.OF Tryz.underlying5 rfl (lq (by omega) (by omega))) ?_
   refine oV (aG rfl) ?_
   refine oV (bE V.OF Tryz.underlying5 rfl (aa.eB _)) ?_
   refine ef (U5) [(P.getD (4 * W * y + i) 0) / 256, (P.getD (4 * W * y + i) 0) % 256] V.bP V.z5 rfl rfl rfl rfl rfl rfl ?_
   intro b43
   refine ek (c := (U5)) V.bP V.z5 rfl rfl rfl rfl aE (own an) (by omega) rfl ?_
   intro p44 c44
   refine cV gI 9 rfl (by omega) ?_
   have hfin := aa.Jj (y := y) (i := i) hs.len (by omega) (by omega)
   have hln : (aa.kK P W y i).length + 2 = (aa.kK P W y (i + 1)).length := by rw [← hfin, List.length_append]; rfl
   rw [hfin, hln]
   exact j3 (i + 1) _ _ ⟨by omega, by omega⟩ (eN ln) (sub (aw (.cons aE (.cons aE .nil))) cG)
  ·refine fQ gI 11 rfl (by omega) ?_
   obtain rfl : i = 4 * W := by omega
   rw [aa.JM hs.len (by omega)]
   exact j3 (y + 1) _ _ ⟨by omega, by omega⟩ (jm ln) (sub (im .nil) au)
 ·refine rC gI 8 rfl ?_
  refine oV (af V.s3 rfl bY rfl) ?_
  refine oV (eu (r := (W : Int) / 256) rfl rfl (by decide) (ak.nO (k := 8) (by decide) rfl)) ?_
  refine oV (bE V.u3 Tryz.underlying5 rfl (lq (by omega) (by omega))) ?_
  refine oV (aF V.tF rfl) ?_
  refine oV (af V.s3 rfl bY rfl) ?_
  refine oV (bE V.u3 Tryz.underlying5 rfl (ak.eB _)) ?_
  refine oV (aF V.nj rfl) ?_
  refine oV (af V.s3 rfl bY rfl) ?_
  refine oV (eu (r := (H : Int) / 256) rfl rfl (by decide) (ak.nO (k := 8) (by decide) rfl)) ?_
  refine oV (bE V.u3 Tryz.underlying5 rfl (lq (by omega) (by omega))) ?_
  refine oV (aF V.nj rfl) ?_
  refine oV (af V.s3 rfl bY rfl) ?_
  refine oV (bE V.u3 Tryz.underlying5 rfl (ak.eB _)) ?_
  refine Er (T := 5) (k := .u8) (aa.hB (W : Int) (H : Int)) V.bP V.z5 rfl rfl rfl rfl ?_
  intro vS
  refine rO gI 4 rfl ?_
  obtain rfl : H = y := by omega
  have hle := aa.oz hs
  have hpl := aa.pE hs
  have hcl := aa.pY (B := aa.du P W H) (by omega)
  refine iU (fun w hi => gY hi (show Row U5 po (aa.du P W H).length co (aa.du P W H) ∈ _ by exact bY)) (fun hco => ?_)
  refine rC gI 2 rfl ?_
  refine oV (bV V.Jl V.K5 rfl (cs := [_, _]) rfl) ?_
  refine oV (aG rfl) ?_
  refine ai (GN po co (aa.du P W H) (Row U5 po (aa.du P W H).length co (aa.du P W H)) (fun w0 h hh => ⟨hh.1, hh.2.rd⟩) (by omega) (aa.oX W hs.u H) hco) V.LN  rfl (.cons aE .nil) rfl ?_
  rintro _ _ ⟨qz, cz, rfl, rfl⟩
  iterate 2 refine oV (bV V.Jl V.K5 rfl (cs := [_, _]) rfl) ?_
  refine ef (bJ) (sH P W H vS qz cz) V.nK V.K5 rfl rfl rfl rfl rfl rfl ?_
  intro Fi
  refine Ni (bd (A := DK (sH P W H vS qz cz)) (.cons eg (.cons aE .nil)) au (fun w0 h hh => LX (P := P) (W := W) (H := H) hh)) ?_
  refine ai (Mc (some ⟨Fi, 0, none⟩) 3 (sH P W H vS qz cz) (Row bJ (some ⟨Fi, 0, none⟩) 3 3 (sH P W H vS qz cz)) (fun w0 h hh => ⟨hh.1, hh.2.rd⟩) (show 3 ≤ 262144 by decide) (K4 hs _ _ _) (by rw [Gn, hpl]; omega)) V.Rp  rfl (.cons aE (aw .nil)) rfl ?_
  rintro _ _ ⟨qj, cj, rfl, rfl⟩
  rw [Gn]
  refine rO gI 14 rfl ?_
  exact aj (aC rfl) ⟨_, _, rfl, rfl⟩ (sub (aw (.cons jH .nil)) mE)
end Go.Proofs.YtmaiakpjgomnpaaGreat
namespace Go.Proofs.YtmaiakpjgomnpaaGreat
open Go.Sl
theorem V.OG : aJ Tryz.prog 14 = true := by kernel_rfl
theorem V.Ri : aJ Tryz.prog 22 = true := by kernel_rfl
end Go.Proofs.YtmaiakpjgomnpaaGreat
namespace Go.Proofs.YtmaiakpjgomnpaaGreat
open Go.Sl 
theorem lC : dC Tryz.prog ⟨[], []⟩ = true := by kernel_rfl
attribute [local irreducible] ak.az aT.iN aa.cP aa.cS aa.iD aa.ev aa.du aa.fR aa.two aa.kc aa.ot aa.mC
set_option maxHeartbeats 8000000 in
theorem Iu  : aK Tryz.prog 13 [] [] (aR fun v G => v = .bool true ∧ G = []) := by
 refine ax [] Tryz.func13 rfl Tryz.ntmps13 rfl rfl ?_
 intro w0 F
 refine rT lC 7 rfl ?_
 refine ai (He 1 1 (by decide)) V.QF  rfl .nil rfl ?_
 rintro _ _ ⟨bq, rfl, rfl⟩
 rw [show (4 * (1 : Int) * 1).toNat = 4 from rfl, show List.replicate 4 (0 : Int) = [0, 0, 0, 0] from rfl]
 refine rO lC 3 rfl ?_
 refine cB V.k9 rfl ?_
 intro b1
 refine aQ (aD V.eX rfl rfl (us := [_, _, _]) rfl rfl (by exact cZ) (by exact Nat.le_of_ble_eq_true rfl) rfl) ?_
 refine rO lC 4 rfl ?_
 refine wN [pz 0 [] [1], pz 1 [0] [], pz 0 [] [1], pz 4 [2] [], pz 3 [1] [], pz 19 [4] [], pz 63 [3] [], pz 127 [6] []] [⟨fun y => ao b1 26 [.int .i64 1, .int .i64 1, .slice (some ⟨bq, 0, none⟩) 4 4], none, none, [1, 3]⟩, ⟨fun y => Row (aW 62 .u16) (some ⟨bq, 0, none⟩) 4 4 [0, 0, 0, 0], none, some 5, [4]⟩, ⟨fun y => Row (aW 62 .u16) (some ⟨bq, 0, none⟩) 4 4 (([0, 0, 0, 0]).set (2 : Int).toNat 7), some 5, some 7, [6]⟩, ⟨fun y => Row (aW 62 .u16) (some ⟨bq, 0, none⟩) 4 4 ((([0, 0, 0, 0]).set (2 : Int).toNat 7).set (3 : Int).toNat 65535), some 7, none, []⟩] F V.mixed ?_
 refine nG V.oQ ?_
 refine nR (fun y FF hA => af V.qp rfl an rfl) ?_
 refine nG V.oQ ?_
 refine nR (fun y FF hA => af V.qp rfl an rfl) ?_
 refine nR (fun y FF hA => xI V.hI (own an)) ?_
 refine nE (fun y FF hA => dp (ir (c := (aW 62 .u16)) (_) V.lG rfl rfl rfl (by exact cZ) (by omega) (by omega) rfl rfl) ⟨rfl, .refl _⟩) ?_
 refine nR (fun y FF hA => xI V.hI (own an)) ?_
 refine nE (fun y FF hA => dp (ir (c := (aW 62 .u16)) (_) V.lG rfl rfl rfl (by exact cZ) (by omega) (by omega) rfl rfl) ⟨rfl, .refl _⟩) ?_
 refine aX ?_
 intro y hA
 clear hA
 refine bu ?_
 refine cy _ (.cons (d := 1) rfl (.nil _)) ?_
 refine bR (M := ao b1 26 [.int .i64 1, .int .i64 1, .slice (some ⟨bq, 0, none⟩) 4 4] :: Row (aW 62 .u16) (some ⟨bq, 0, none⟩) 4 4 ((([0, 0, 0, 0]).set (2 : Int).toNat 7).set (3 : Int).toNat 65535) :: F) (fun _ _ h => h) ?_
 refine rC lC 1 rfl ?_
 rw [show (([0, 0, 0, 0] : List Int).set ((2 : Int)).toNat 7).set ((3 : Int)).toNat 65535 = [0, 0, 7, 65535] from rfl]
 have hpl := aa.pE aa.BT
 have hrl := aa.oz aa.BT
 have hcl := aa.pY (B := aa.du [0, 0, 7, 65535] 1 1) (by omega)
 refine bo ?_
 refine oV (bX V.eX rfl an (vs := [_, _, _]) rfl rfl) ?_
 refine ai (HD [0, 0, 7, 65535] 1 1 aa.BT (some ⟨bq, 0, none⟩) 4 (by decide) (Row (aW 62 .u16) (some ⟨bq, 0, none⟩) 4 4 [0, 0, 7, 65535]) (fun w0 h hh => ⟨hh.1, hh.2.rd⟩)) V.Ri  rfl (.cons aE .nil) rfl ?_
 rintro _ _ ⟨q2, c2, rfl, rfl⟩
 refine KX (fun w hi => gY hi (show Row U5 q2 (aa.fR [0, 0, 7, 65535] 1 1).length c2 (aa.fR [0, 0, 7, 65535] 1 1) ∈ _ by exact an)) (fun hc2 => ?_)
 refine ai (wv q2 c2 (aa.fR [0, 0, 7, 65535] 1 1) (Row U5 q2 (aa.fR [0, 0, 7, 65535] 1 1).length c2 (aa.fR [0, 0, 7, 65535] 1 1)) (fun w0 h hh => ⟨hh.1, hh.2.rd⟩) (by omega) (aa.C3 aa.BT) hc2 _ (aa.AI aa.BT)) V.OG  rfl (aw .nil) rfl ?_
 rintro _ _ ⟨qd, nd, cd, rfl, hnd, hcd, rfl⟩
 obtain rfl : nd = 4 := hnd.symm
 refine rO lC 3 rfl ?_
 refine cB V.k9 rfl ?_
 intro b3
 refine aQ (aD V.eX rfl rfl (us := [_, _, _]) rfl rfl (by exact cZ) (by exact Nat.le_of_ble_eq_true rfl) rfl) ?_
 refine rO lC 4 rfl ?_
 refine hH (Row U5 none 0 0 []) (Row.nil _ _ _) ?_
 refine bo ?_
 refine ai (wv none 0 [] (Row U5 none 0 0 []) (fun w0 h hh => ⟨hh.1, hh.2.rd⟩) (by decide) aT.jx (by decide) _ aa.HU) V.OG  rfl (aw .nil) rfl ?_
 rintro _ _ ⟨qe, ne, ce, rfl, hne, hce, rfl⟩
 obtain rfl : ne = 0 := hne.symm
 refine rO lC 3 rfl ?_
 refine cB V.k9 rfl ?_
 intro b5
 refine aQ (aD V.eX rfl rfl (us := [_, _, _]) rfl rfl (by exact cZ) (by exact Nat.le_of_ble_eq_true rfl) rfl) ?_
 refine rO lC 6 rfl ?_
 refine oV (aU (av rfl rfl) (by omega)) ?_
 refine oV (aG rfl) ?_
 refine ae rfl ?_
 refine oV (bX V.eX rfl wq (vs := [_, _, _]) rfl rfl) ?_
 refine ae rfl ?_
 refine oV (bX V.eX rfl eL (vs := [_, _, _]) rfl rfl) ?_
 refine ae rfl ?_
 refine ai (Mf 1 1 (some ⟨bq, 0, none⟩) 4 4 [0, 0, 7, 65535] rfl (Row (aW 62 .u16) (some ⟨bq, 0, none⟩) 4 4 [0, 0, 7, 65535]) (fun w0 h hh => ⟨hh.1, hh.2.rd⟩) 1 1 qd 4 cd [0, 0, 7, 65535] rfl (Row (aW 62 .u16) qd 4 cd [0, 0, 7, 65535]) (fun w0 h hh => ⟨hh.1, hh.2.rd⟩) (by decide) true (decide_eq_true (by unfold aa.kc; exact ⟨⟨by decide, rfl⟩, ⟨by decide, rfl⟩, rfl, rfl, rfl⟩)).symm) V.Of  rfl (.cons om (.cons jH .nil)) rfl ?_
 rintro _ _ ⟨rfl, rfl⟩
 refine rO lC 3 rfl ?_
 refine ae rfl ?_
 refine oV (aU (av rfl rfl) (by omega)) ?_
 refine rO lC 2 rfl ?_
 refine ae rfl ?_
 refine ai (iu 6) V.oo  rfl .nil rfl ?_
 rintro _ _ ⟨rfl, rfl⟩
 refine ae rfl ?_
 refine oV (aU (av rfl rfl) (by decide)) ?_
 refine rO lC 5 rfl ?_
 exact aj (aC rfl) ⟨rfl, rfl⟩ (sub .nil Ja)
end Go.Proofs.YtmaiakpjgomnpaaGreat
namespace Go.Proofs.YtmaiakpjgomnpaaGreat
open Go.Sl
theorem V.Gk : aJ Tryz.prog 13 = true := by kernel_rfl
end Go.Proofs.YtmaiakpjgomnpaaGreat
namespace Go.Proofs.YtmaiakpjgomnpaaGreat
open Go.Sl
end Go.Proofs.YtmaiakpjgomnpaaGreat
namespace Go.Proofs.YtmaiakpjgomnpaaGreat
open Go.Sl
end Go.Proofs.YtmaiakpjgomnpaaGreat
namespace Go.Proofs.YtmaiakpjgomnpaaGreat
open Go.Sl 
attribute [local irreducible] ak.az aa.BB aa.eY aa.parts
set_option maxHeartbeats 2000000 in
theorem Gt (p : Option Addr) (cap : Nat) (B : List Int) (hB : ak.az B) (ay : Int) : aK Tryz.prog 4 [.slice p B.length cap, .int .i64 ay] [aS U5 p B.length B] (aR fun v G => v = .bool true ∧ G = [aS U5 p B.length B]) := by
  refine ax [(0, _), (1, _)] Tryz.func4 rfl Tryz.ntmps4 rfl rfl ?_
  intro w0 F
  refine fV ?_
  refine bo ?_
  refine cA (ed rfl) rfl ?_
  refine cH ?_
  refine bu ?_
  refine fV ?_
  refine fV ?_
  refine bo ?_
  refine ai (Iu) V.Gk  rfl .nil rfl ?_
  rintro _ _ ⟨rfl, rfl⟩
  refine cA (cN (v := .bool false) (l8 rfl) rfl) rfl ?_
  refine cH ?_
  refine bu ?_
  refine k8 rfl ?_
  refine wc ?_
  refine bu ?_
  refine fV ?_
  refine fV ?_
  refine bo ?_
  refine cA (aG rfl) rfl ?_
  refine cA (eM (ty' := 0) Tryz.underlying22 rfl) rfl ?_
  refine cA (bj rfl rfl) rfl ?_
  refine cH ?_
  refine bu ?_
  first | refine aP rfl (fun h13 => ?_) (fun h13 => ?_) | refine qg rfl (fun h13 => ?_) (fun h13 => ?_)
  ·
    refine fV ?_
    refine bo ?_
    refine cA (ed rfl) rfl ?_
    refine cH ?_
    refine bu ?_
    refine vk ?_
    refine (Ar ?_)
    exact aj (G := [aS U5 p B.length B]) (aC rfl) ⟨rfl, rfl⟩ (sub (.cons (by repeat first | exact .head | apply fP.tail) .nil) (by repeat first | exact .refl | apply Drop.skip))
  ·
    refine wc ?_
    refine bu ?_
    refine fV ?_
    refine bo ?_
    refine cA (aG rfl) rfl ?_
    refine ai (qx p cap B (aS U5 p B.length B) (fun _ _ hh => hh) hB) V.wG  rfl (.cons (by repeat first | exact .head | apply fP.tail) .nil) rfl ?_
    rintro _ _ ⟨rfl, rfl⟩
    refine cA (aG rfl) rfl ?_
    refine cA (eE rfl rfl) rfl ?_
    refine cA (eE rfl rfl) rfl ?_
    refine cB V.mZ rfl ?_
    intro b5
    refine aQ (aD V.iW rfl rfl (us := [_, _, _, _, _]) rfl rfl (by repeat first | exact .head | apply hG.tail) (by exact Nat.le_of_ble_eq_true rfl) rfl) ?_
    refine cA (ed rfl) rfl ?_
    refine cH ?_
    refine bu ?_
    refine fV ?_
    refine bo ?_
    refine cA (aG rfl) rfl ?_
    refine ai (zY p cap B (aS U5 p B.length B) (fun _ _ hh => hh) hB) V.py  rfl (.cons (by repeat first | exact .head | apply fP.tail) .nil) rfl ?_
    rintro _ _ ⟨rfl, rfl⟩
    refine cA (aG rfl) rfl ?_
    refine cA (eE rfl rfl) rfl ?_
    refine cA (eE rfl rfl) rfl ?_
    refine cB V.oi rfl ?_
    intro b7
    refine aQ (aD V.kq rfl rfl (us := [_, _, _, _, _]) rfl rfl (by repeat first | exact .head | apply hG.tail) (by exact Nat.le_of_ble_eq_true rfl) rfl) ?_
    refine cA (ed rfl) rfl ?_
    refine cH ?_
    refine bu ?_
    refine fV ?_
    refine bo ?_
    refine cA (aG rfl) rfl ?_
    refine cA (aG rfl) rfl ?_
    refine cA (aU (av rfl rfl) rfl) rfl ?_
    refine cA (aG rfl) rfl ?_
    refine ae rfl ?_
    refine cA (aF V.vq rfl) rfl ?_
    refine ae rfl ?_
    refine cA (af V.s3 rfl (by repeat first | exact .head _ | apply List.Mem.tail) rfl) rfl ?_
    refine ae rfl ?_
    refine cA (aF V.N5 rfl) rfl ?_
    refine ae rfl ?_
    refine cA (af V.s3 rfl (by repeat first | exact .head _ | apply List.Mem.tail) rfl) rfl ?_
    refine ae rfl ?_
    refine cA (aU (av rfl rfl) rfl) rfl ?_
    refine cA (ju rfl rfl) rfl ?_
    refine cA (aG rfl) rfl ?_
    refine ae rfl ?_
    refine cA (aF V.qX rfl) rfl ?_
    refine ae rfl ?_
    refine cA (af V.s3 rfl (by repeat first | exact .head _ | apply List.Mem.tail) rfl) rfl ?_
    refine ae rfl ?_
    refine cA (aF V.Av rfl) rfl ?_
    refine ae rfl ?_
    refine cA (af V.s3 rfl (by repeat first | exact .head _ | apply List.Mem.tail) rfl) rfl ?_
    refine ae rfl ?_
    refine cA (aU (av rfl rfl) rfl) rfl ?_
    refine cA (ju rfl rfl) rfl ?_
    refine cA (aG rfl) rfl ?_
    refine ae rfl ?_
    refine cA (aF V.lD rfl) rfl ?_
    refine ae rfl ?_
    refine cA (af V.s3 rfl (by repeat first | exact .head _ | apply List.Mem.tail) rfl) rfl ?_
    refine ae rfl ?_
    refine cA (aF V.MZ rfl) rfl ?_
    refine ae rfl ?_
    refine cA (af V.s3 rfl (by repeat first | exact .head _ | apply List.Mem.tail) rfl) rfl ?_
    refine ae rfl ?_
    refine cA (aU (av rfl rfl) rfl) rfl ?_
    refine cA (ju rfl rfl) rfl ?_
    refine cA (aG rfl) rfl ?_
    refine ae rfl ?_
    refine cA (aF V.ph rfl) rfl ?_
    refine ae rfl ?_
    refine cA (af V.s3 rfl (by repeat first | exact .head _ | apply List.Mem.tail) rfl) rfl ?_
    refine ae rfl ?_
    refine cA (aF V.MA rfl) rfl ?_
    refine ae rfl ?_
    refine cA (af V.s3 rfl (by repeat first | exact .head _ | apply List.Mem.tail) rfl) rfl ?_
    refine ae rfl ?_
    refine cA (aU (av rfl rfl) rfl) rfl ?_
    refine cA (ju rfl rfl) rfl ?_
    refine cA (aG rfl) rfl ?_
    refine ae rfl ?_
    refine cA (aF V.N9 rfl) rfl ?_
    refine ae rfl ?_
    refine cA (af V.s4 rfl (by repeat first | exact .head _ | apply List.Mem.tail) rfl) rfl ?_
    refine ae rfl ?_
    refine cA (aF V.Nw rfl) rfl ?_
    refine ae rfl ?_
    refine cA (af V.s4 rfl (by repeat first | exact .head _ | apply List.Mem.tail) rfl) rfl ?_
    refine ae rfl ?_
    refine cA (cN (v := .bool true) (Nj Tryz.underlying4 rfl rfl) (by rw [beq_self_eq_true])) rfl ?_
    refine cA (ju rfl rfl) rfl ?_
    refine cA (aG rfl) rfl ?_
    refine ae rfl ?_
    refine cA (aG rfl) rfl ?_
    refine ae rfl ?_
    refine ai (iu ay) V.oo  rfl .nil rfl ?_
    rintro _ _ ⟨rfl, rfl⟩
    refine ae rfl ?_
    refine cA (aG rfl) rfl ?_
    refine ae rfl ?_
    refine ai (kB ay) V.oa  rfl .nil rfl ?_
    rintro _ _ ⟨rfl, rfl⟩
    refine ae rfl ?_
    refine cA (aU (av rfl rfl) rfl) rfl ?_
    refine cA (ju rfl rfl) rfl ?_
    refine cA (ed rfl) rfl ?_
    refine cH ?_
    refine bu ?_
    refine vk ?_
    exact aj (G := [aS U5 p B.length B]) (aC rfl) ⟨rfl, rfl⟩ (sub (.cons (by repeat first | exact .head | apply fP.tail) .nil) (by repeat first | exact .refl | apply Drop.skip))
end Go.Proofs.YtmaiakpjgomnpaaGreat

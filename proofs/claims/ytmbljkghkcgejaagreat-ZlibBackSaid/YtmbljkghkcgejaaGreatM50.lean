/- Walks of functions that the law reaches, and what they lean on; no conditions. -/
import Derived.Test.YtmbljkghkcgejaaGreatM30
import Derived.Test.YtmbljkghkcgejaaGreatSl22
import Derived.KernelRfl
import Derived.Test.YtmbljkghkcgejaaGreatM46
import Derived.Test.YtmbljkghkcgejaaGreatZhU
import Derived.Test.YtmbljkghkcgejaaGreatM33
set_option linter.unusedVariables false
set_option linter.unusedSimpArgs false
set_option maxRecDepth 100000
namespace Go.Proofs.YtmbljkghkcgejaaGreat
open Go.Sl 
theorem dq : dJ Tryz.prog ⟨[77], [(114, 0, 0)]⟩ = true := by kernel_rfl
attribute [local irreducible] ab.aO ab.ord ab.bx ab.words ab.cF ab.wb ab.fT ab.eC ab.gF ad.cv aa.bF af.aQ ad.lJ ad.lq ad.eN ad.fA ad.fB aJ.mX ab.bits ad.dA ad.dB ad.dF ad.kX ad.gi ad.bS ad.jN ad.dX ad.fV List.replicate ad.fH
theorem xh (p : Option Addr) (c n : Nat) (fr o : List Int) (most : Int) (R : ae) (hR : ∀ w0 h, R w0 h → bJ I3 p n fr w0 h) (hn : fr.length = n) (hOk : vP fr most) (ho : aJ.mX fr most.toNat = o) : aD Tryz.prog 78 [.slice p n c, .int .i64 most] [R] (aK fun v G => ∃ b, v = .tuple #[.slice (some ⟨b, 0, none⟩) n n, .bool true] ∧ G = [Row I3 (some ⟨b, 0, none⟩) n n o, R]) := by
  subst hn
  refine (CZ p c fr most R hR).mono ?_
  rintro e G ⟨v, rfl, h⟩
  rcases h with ⟨h, _⟩ | ⟨_, b, o2, rfl, hg, rfl⟩
  · exact absurd hOk h
  · have := hg.k8
    rw [ho] at this
    subst this
    exact ⟨_, rfl, b, rfl, rfl⟩
theorem Fw : aD Tryz.prog 79 [] [] (aK fun v G => ∃ p c, v = .slice p 19 c ∧ G = [Row I3 p 19 c aa.dv]) := by
  refine zm.mono ?_
  rintro e G ⟨v, rfl, q, rfl, rfl⟩
  exact ⟨_, rfl, _, _, rfl, rfl⟩
theorem E3 (bl : Nat) (pa : Option Addr) (a : List Int) (n ca : Nat) (pd : Option Addr) (d : List Int) (m cd : Nat) (q : Option Addr) (cq : Nat) (l : List ad.aZ) (bs : List Int) (RT RA RD : ae) (hRT : ∀ w0 h, RT w0 h → bJ TK q l.length l w0 h) (hRA : ∀ w0 h, RA w0 h → bJ I3 pa n a w0 h) (hRD : ∀ w0 h, RD w0 h → bJ I3 pd m d w0 h) (hn : a.length = n) (hm : d.length = m) (hEa : ab.aO a = 0) (hEd : ab.aO d = 0) (hF : ad.Fits a d l) (hl : l.length ≤ 4194304) (hb : bs.length ≤ 20000) : aD Tryz.prog 75 [.agg #[.pointer (some ⟨bl, 0, none⟩), .slice pa n ca, .slice pd m cd], .slice q l.length cq] [WB bl bs, RT, RA, RD] (aK fun v G => v = .tuple #[] ∧ G = [WB bl (bs ++ (ad.cv a d l ++ ab.wb a 256)), RT, RA, RD]) := by
  subst hn; subst hm
  exact yF bl pa a ca pd d cd q cq l bs RT RA RD hRT hRA hRD hEa hEd hF hl hb
theorem M4 {l : List ad.aZ} (hl : l.length ≤ 4194304) : vP (ad.fA l) 15 := ⟨by decide, by decide, by rw [ad.lA]; decide, ad.Lx hl, by have := aJ.kZ (ad.fA l) (ad.fA l).length; rw [ad.lA] at *; have e : 2 ^ (15 : Int).toNat = 32768 := (by decide); omega⟩
theorem MO {l : List ad.aZ} (hl : l.length ≤ 4194304) : vP (ad.fB l) 15 := ⟨by decide, by decide, by rw [ad.nr]; decide, ad.LA hl, by have := aJ.kZ (ad.fB l) (ad.fB l).length; rw [ad.nr] at *; have e : 2 ^ (15 : Int).toNat = 32768 := (by decide); omega⟩
theorem MF {l : List ad.aZ} (hl : l.length ≤ 4194304) : vP (ad.kX l) 7 := ⟨by decide, by decide, by rw [ad.kn]; decide, ad.JZ hl, by have := aJ.kZ (ad.kX l) (ad.kX l).length; rw [ad.kn] at *; have e : 2 ^ (7 : Int).toNat = 128 := (by decide); omega⟩
theorem IG (p : Option Addr) (c n : Nat) (ls : List Int) (R : ae) (hR : ∀ w0 h, R w0 h → bJ I3 p n ls w0 h) (hn : ls.length = n) (hE : ab.aO ls = 0) : aD Tryz.prog 80 [.slice p n c] [R] (aK fun v G => ∃ b, v = .tuple #[.pointer (some ⟨b, 0, none⟩), .int .i64 0] ∧ G = [HC b ls, R]) := by
  subst hn
  exact nS p c ls R hR hE
theorem JR : [] ++ af.aQ 1 1 ++ af.aQ 2 2 ++ af.aQ 29 5 ++ af.aQ 29 5 ++ af.aQ 15 4 = ad.fV := by unfold ad.fV; rfl
theorem ri : ad.fV.length = 17 := by unfold ad.fV; simp only [List.length_append, af.dH]
set_option maxHeartbeats 8000000 in
theorem C0 (q : Option Addr) (cq : Nat) (l : List ad.aZ) (RT : ae) (hRT : ∀ w0 h, RT w0 h → bJ TK q l.length l w0 h) (hok : ∀ t ∈ l, ad.iu t) (hl : l.length ≤ 4194304) : aD Tryz.prog 61 [.slice q l.length cq] [RT] (aK fun v G => ∃ q c, v = .slice q (ad.ky l).length c ∧ G = [Row U5 q (ad.ky l).length c (ad.ky l), RT]) := by
  refine ax [(0, _)] Tryz.func61 rfl Tryz.ntmps61 rfl rfl ?_
  intro w0 F
  have hAl := ad.vN hl
  have hBl := ad.xf hl
  have hFl := ad.wT l
  have hLl := ad.nd hl
  have hgA := ad.uJ hl
  have hgB := ad.zV hl
  have hgF := ad.wF l
  have hFi := ad.FT hok hl
  have hVF := (ab.cM hgF.code).1
  refine rT dq 8 rfl ?_
  refine ai (DL q cq l RT hRT hok hl) V.Nn  rfl (au .nil) rfl ?_
  rintro _ _ ⟨ba, bb, rfl, rfl⟩
  refine rO dq 10 rfl ?_
  refine ai (xh (some ⟨ba, 0, none⟩) 286 286 (ad.fA l) (ad.dA l) 15 (Row I3 (some ⟨ba, 0, none⟩) 286 286 (ad.fA l)) (fun _ _ hh => hh.rd) (ad.lA l) (M4 hl) (by unfold ad.dA; rfl)) V.JB  rfl (au .nil) rfl ?_
  rintro _ _ ⟨lf, rfl, rfl⟩
  refine rO dq 9 rfl ?_
  refine ai (xh (some ⟨bb, 0, none⟩) 30 30 (ad.fB l) (ad.dB l) 15 (Row I3 (some ⟨bb, 0, none⟩) 30 30 (ad.fB l)) (fun _ _ hh => hh.rd) (ad.nr l) (MO hl) (by unfold ad.dB; rfl)) V.JB  rfl (.cons aS .nil) rfl ?_
  rintro _ _ ⟨lG, rfl, rfl⟩
  refine rO dq 9 rfl ?_
  refine xE (Row (I3) none 0 0 []) (Row.nil _ _ _) ?_
  refine bQ (c := (I3)) V.aF V.z3 rfl rfl rfl rfl dg (own fZ) (by omega) rfl ?_
  intro p34 c34
  refine oV (aB rfl) ?_
  refine bQ (c := (I3)) V.aF V.z3 rfl rfl rfl rfl dg (own bB) (by omega) rfl ?_
  intro p36 c36
  refine rO dq 4 rfl ?_
  rw [show [] ++ ad.dA l ++ ad.dB l = ad.bS l from by unfold ad.bS; rfl]
  refine aW ?_
  refine ry 19 19 (I3) rfl rfl V.aF V.z3 rfl rfl rfl rfl (by omega) (by omega) rfl rfl ?_
  intro sU
  refine rO dq 12 rfl ?_
  rw [show List.replicate 19 I3.d = ad.gi ((ad.bS l).take 0) ad.jN from by rw [List.take_zero]; simp only [ad.gi]; unfold ad.jN; rfl]
  refine cx (fun (k : Nat) => [(0, .slice q l.length cq), (3, .slice (some ⟨lf, 0, none⟩) 286 286), (4, .slice (some ⟨lG, 0, none⟩) 30 30), (5, .slice p36 316 c36), (6, .slice (some ⟨sU, 0, none⟩) 19 19), (38, .slice p36 316 c36), (39, .int .i64 316), (40, .int .i64 (k : Int))]) (fun (k : Nat) => Row I3 (some ⟨sU, 0, none⟩) 19 19 (ad.gi ((ad.bS l).take k) ad.jN) :: Row I3 p36 316 c36 (ad.bS l) :: Row I3 (some ⟨lf, 0, none⟩) 286 286 (ad.dA l) :: Row I3 (some ⟨lG, 0, none⟩) 30 30 (ad.dB l) :: RT :: F) (fun (k : Nat) => k ≤ 316) (fun (k : Nat) => 316 - k) (i1 (0) ?_ (fL (aX ln)) (sub (aE (.cons aS (.cons dg (.cons aS .nil)))) fg)) ?_
  ·
    exact Nat.zero_le _
  intro k
  rintro hk
  refine rL dq 6 rfl ?_
  refine aj rfl (fun h41 => ?_) (fun h41 => ?_)
  ·
    refine rC dq 6 rfl ?_
    refine oV (xI V.aF (own bB)) ?_
    refine oV (xL V.s3 (own bB)) ?_
    refine rO dq 3 rfl ?_
    have hk2 : k < (ad.bS l).length := by omega
    have hxm : (I3.g (ad.bS l) (k : Int)) ∈ ad.bS l := by rw [show (I3.g (ad.bS l) (k : Int)) = (ad.bS l)[k] from by simp [Ec.g, hk2]]; exact List.getElem_mem hk2
    have hin := ad.uf hl hxm
    have hcl : (ad.gi ((ad.bS l).take k) ad.jN).length = 19 := (ad.pJ _ _).trans (by unfold ad.jN; rw [List.length_replicate])
    have hv : 0 ≤ I3.g (ad.gi ((ad.bS l).take k) ad.jN) (I3.g (ad.bS l) (k : Int)) ∧ I3.g (ad.gi ((ad.bS l).take k) ad.jN) (I3.g (ad.bS l) (k : Int)) ≤ 316 := ad.zG hl _
    refine rC dq 3 rfl ?_
    refine oV (xI V.aF (own ak)) ?_
    refine oV (xL V.s3 (own ak)) ?_
    refine bN dq 1 rfl (by omega) ?_
    refine oV (xI V.aF (own ak)) ?_
    refine bM (eb (c := (I3)) (_) V.s3 rfl rfl rfl (by exact dO) (by omega) (by omega) rfl rfl) ?_
    refine bN dq 7 rfl (by omega) ?_
    rw [pP (l := (ad.gi ((ad.bS l).take k) ad.jN)) (l' := ad.gi ((ad.bS l).take (k + 1)) ad.jN) (s := (I3.g (ad.bS l) (k : Int))) (by rw [show (I3.g (ad.bS l) (k : Int)) = (ad.bS l)[k] from by simp [Ec.g, hk2]]; exact ad.Ch hk2) rfl]
    refine j1 (k + 1) ?_ (fL (aX ln)) (sub (lF .nil) ao)
    exact ⟨by omega, by omega⟩
  ·
    refine rC dq 6 rfl ?_
    have hk3 : k = 316 := by omega
    rw [hk3, List.take_of_length_le (by omega), show ad.gi (ad.bS l) ad.jN = ad.kX l from by unfold ad.kX; rfl]
    refine rC dq 2 rfl ?_
    refine ai (xh (some ⟨sU, 0, none⟩) 19 19 (ad.kX l) (ad.dF l) 7 (Row I3 (some ⟨sU, 0, none⟩) 19 19 (ad.kX l)) (fun _ _ hh => hh.rd) (ad.kn l) (MF hl) (by unfold ad.dF; rfl)) V.JB  rfl (au .nil) rfl ?_
    rintro _ _ ⟨oB, rfl, rfl⟩
    refine rO dq 9 rfl ?_
    refine oV (eP V.FD V.JF rfl (cs := [_, _, _, _]) rfl) ?_
    refine fG rfl (cs := [_, _, _, _]) rfl rfl ?_
    intro gy
    refine rO dq 2 rfl ?_
    refine oV (eP V.FL V.Ba rfl (cs := [_, _, _]) rfl) ?_
    refine fR V.Ba rfl ?_
    intro iV
    refine bM (fc V.Bc rfl rfl (us := [_, _, _]) rfl rfl (by exact dO) (by exact Nat.le_of_ble_eq_true rfl) rfl) ?_
    refine rO dq 3 rfl ?_
    refine vB (A := av gy 89 [.slice none 0 0, .slice none 0 0, .int .i64 0, .int .i64 0]) (B := WB gy []) ar (fun h hh => Cd hh) ?_
    refine rC dq 2 rfl ?_
    refine oV (ag V.dw rfl bB rfl) ?_
    refine ai (ld gy [] 1 1 (by decide) (by omega) (by simp only [List.nil_append, List.length_append, af.dH, List.length_nil]; omega)) V.qT  rfl (au .nil) rfl ?_
    rintro _ _ ⟨rfl, rfl⟩
    refine rO dq 5 rfl ?_
    refine oV (ag V.dw rfl bB rfl) ?_
    refine ai (ld gy ([] ++ af.aQ 1 1) 2 2 (by decide) (by omega) (by simp only [List.nil_append, List.length_append, af.dH, List.length_nil]; omega)) V.qT  rfl (au .nil) rfl ?_
    rintro _ _ ⟨rfl, rfl⟩
    refine rO dq 5 rfl ?_
    refine oV (ag V.dw rfl bB rfl) ?_
    refine rO dq 2 rfl ?_
    refine oV (de (v := .int .i64 29) (dD rfl rfl wI) rfl) ?_
    refine ai (ld gy ([] ++ af.aQ 1 1 ++ af.aQ 2 2) 29 5 (by decide) (by omega) (by simp only [List.nil_append, List.length_append, af.dH, List.length_nil]; omega)) V.qT  rfl (au .nil) rfl ?_
    rintro _ _ ⟨rfl, rfl⟩
    refine rO dq 5 rfl ?_
    refine oV (ag V.dw rfl bB rfl) ?_
    refine rO dq 2 rfl ?_
    refine oV (de (v := .int .i64 29) (dD rfl rfl wI) rfl) ?_
    refine ai (ld gy ([] ++ af.aQ 1 1 ++ af.aQ 2 2 ++ af.aQ 29 5) 29 5 (by decide) (by omega) (by simp only [List.nil_append, List.length_append, af.dH, List.length_nil]; omega)) V.qT  rfl (au .nil) rfl ?_
    rintro _ _ ⟨rfl, rfl⟩
    refine rO dq 3 rfl ?_
    refine mL [pz 0 [] [11], pz 1 [0] [], pz 0 [] [], pz 4 [2] [], pz 12 [3] [], pz 31 [1, 4] []] [⟨fun y => WB gy ([] ++ af.aQ 1 1 ++ af.aQ 2 2 ++ af.aQ 29 5 ++ af.aQ 29 5), none, some 5, []⟩, ⟨fun y => av iV 114 [.pointer (some ⟨gy, 0, none⟩), .slice (some ⟨lf, 0, none⟩) 286 286, .slice (some ⟨lG, 0, none⟩) 30 30], none, none, [1]⟩, ⟨fun y => Row I3 (some ⟨oB, 0, none⟩) 19 19 (ad.dF l), none, none, []⟩, ⟨fun y => Row I3 (some ⟨sU, 0, none⟩) 19 19 (ad.kX l), none, none, []⟩, ⟨fun y => Row I3 p36 316 c36 (ad.bS l), none, none, []⟩, ⟨fun y => Row I3 (some ⟨lf, 0, none⟩) 286 286 (ad.dA l), none, none, []⟩, ⟨fun y => Row I3 (some ⟨lG, 0, none⟩) 30 30 (ad.dB l), none, none, []⟩, ⟨fun y => RT, none, none, []⟩, ⟨fun y => Row I3 (bY (y 2)) 19 (fp (y 2)) aa.dv, some 2, none, []⟩, ⟨fun y => WB gy ([] ++ af.aQ 1 1 ++ af.aQ 2 2 ++ af.aQ 29 5 ++ af.aQ 29 5 ++ af.aQ 15 4), some 5, none, []⟩] F V.mixed (by kernel_rfl) rfl (fun _ => .refl _) (dV _ (dV _ (dV _ (dV _ (dV _ (dV _ (dV _ (dV _ (ea _ rfl (by intro y y2 h; simp only [h 2 (.inl rfl)]) (ea _ rfl (by intro y y2 h; rfl) jb)))))))))) ?_
    refine nG V.Ds ?_
    refine nR (fun y FF hA => ag V.dw rfl ak rfl) ?_
    refine fD (fun y v => .slice (bY v) 19 (fp v)) (fun y v => True) _ _ (fun y v => [Row I3 (bY v) 19 (fp v) aa.dv]) _ (fun y => rfl) (fun y => rfl) (fun y => rfl) (fun y => rfl) (fun y FF hA => vb Fw V.Mn rfl .nil) (by intros; rfl) (by intros; rfl) (by intros; rfl) (by intro y y2 h; simp only [h 2 (.inl rfl)]) (by intro y y2 h; rfl) ?_
    refine nV (fun y hA L => eF (ty' := 0) Tryz.underlying77 rfl) ?_
    refine nV (fun y hA L => de (v := .int .i64 15) (dD rfl rfl wI) rfl) ?_
    refine nE (fun y FF hA => dx (Post := [WB gy ([] ++ af.aQ 1 1 ++ af.aQ 2 2 ++ af.aQ 29 5 ++ af.aQ 29 5 ++ af.aQ 15 4)]) (ld gy ([] ++ af.aQ 1 1 ++ af.aQ 2 2 ++ af.aQ 29 5 ++ af.aQ 29 5) 15 4 (by decide) (by omega) (by simp only [List.nil_append, List.length_append, af.dH, List.length_nil]; omega)) V.qT rfl (au .nil) (fun v G h => by rcases h with ⟨rfl, rfl⟩; exact ⟨rfl, .refl _⟩)) ?_
    refine aM ?_
    intro y hA
    clear hA
    refine bp ?_
    refine bW [(0, .slice q l.length cq), (5, .slice p36 316 c36), (9, .slice (some ⟨oB, 0, none⟩) 19 19), (11, .pointer (some ⟨iV, 0, none⟩))] (.cons (d := 0) rfl (.cons (d := 5) rfl (.cons (d := 9) rfl (.cons (d := 11) rfl (.nil _))))) ?_
    refine bR (M := av iV 114 [.pointer (some ⟨gy, 0, none⟩), .slice (some ⟨lf, 0, none⟩) 286 286, .slice (some ⟨lG, 0, none⟩) 30 30] :: Row I3 (some ⟨oB, 0, none⟩) 19 19 (ad.dF l) :: Row I3 (some ⟨sU, 0, none⟩) 19 19 (ad.kX l) :: Row I3 p36 316 c36 (ad.bS l) :: Row I3 (some ⟨lf, 0, none⟩) 286 286 (ad.dA l) :: Row I3 (some ⟨lG, 0, none⟩) 30 30 (ad.dB l) :: RT :: Row I3 (bY (y 2)) 19 (fp (y 2)) aa.dv :: WB gy ([] ++ af.aQ 1 1 ++ af.aQ 2 2 ++ af.aQ 29 5 ++ af.aQ 29 5 ++ af.aQ 15 4) :: F) (fun _ _ h => h) ?_
    refine bR (sub .nil (.keep (.keep (.skip (.keep (.keep (.keep (.keep (.skip (.keep .refl)))))))))) ?_
    simp only [List.nil_append]
    generalize (bY (y 2)) = q81
    refine rC dq 3 rfl ?_
    refine ai (zm) V.Mn  rfl .nil rfl ?_
    rintro _ _ ⟨vJ, rfl, rfl⟩
    refine rO dq 5 rfl ?_
    refine vB (A := WB gy ([] ++ af.aQ 1 1 ++ af.aQ 2 2 ++ af.aQ 29 5 ++ af.aQ 29 5 ++ af.aQ 15 4)) (B := WB gy (ad.fV ++ ad.dX (ad.dF l) 0)) (by exact Mk) (fun h hh => by rw [show ad.dX (ad.dF l) 0 = [] from (by unfold ad.dX; rfl), List.append_nil, ← JR]; exact hh) ?_
    refine cx (fun (k : Nat) => [(0, .slice q l.length cq), (5, .slice p36 316 c36), (9, .slice (some ⟨oB, 0, none⟩) 19 19), (11, .pointer (some ⟨iV, 0, none⟩)), (85, .slice (some ⟨vJ, 0, none⟩) 19 19), (86, .int .i64 19), (87, .int .i64 (k : Int))]) (fun (k : Nat) => WB gy (ad.fV ++ ad.dX (ad.dF l) k) :: Row I3 (some ⟨vJ, 0, none⟩) 19 19 aa.dv :: av iV 114 [.pointer (some ⟨gy, 0, none⟩), .slice (some ⟨lf, 0, none⟩) 286 286, .slice (some ⟨lG, 0, none⟩) 30 30] :: Row I3 (some ⟨oB, 0, none⟩) 19 19 (ad.dF l) :: Row I3 p36 316 c36 (ad.bS l) :: Row I3 (some ⟨lf, 0, none⟩) 286 286 (ad.dA l) :: Row I3 (some ⟨lG, 0, none⟩) 30 30 (ad.dB l) :: RT :: F) (fun (k : Nat) => k ≤ 19) (fun (k : Nat) => 19 - k) (i1 (0) ?_ (kr (aX ln)) (sub (dU (lF .nil)) ao)) ?_
    ·
      exact Nat.zero_le _
    intro k
    rintro hk
    refine rL dq 6 rfl ?_
    refine aj rfl (fun h88 => ?_) (fun h88 => ?_)
    ·
      refine rC dq 6 rfl ?_
      refine oV (xI V.aF (own bB)) ?_
      refine oV (xL V.s3 (own bB)) ?_
      refine rO dq 3 rfl ?_
      have hoo : 0 ≤ (I3.g aa.dv (k : Int)) ∧ (I3.g aa.dv (k : Int)) < 19 := aa.ue (k := k) (by omega)
      have hf7 : 0 ≤ (I3.g (ad.dF l) (I3.g aa.dv (k : Int))) ∧ (I3.g (ad.dF l) (I3.g aa.dv (k : Int))) ≤ 7 := ad.IS _
      refine wN [pz 0 [] [11], pz 1 [0] [], pz 0 [] [9], pz 0 [] [13], pz 12 [2, 3] [], pz 28 [4] [], pz 63 [1, 5] []] [⟨fun y => WB gy (ad.fV ++ ad.dX (ad.dF l) k), none, some 6, []⟩, ⟨fun y => Row I3 (some ⟨vJ, 0, none⟩) 19 19 aa.dv, none, none, []⟩, ⟨fun y => av iV 114 [.pointer (some ⟨gy, 0, none⟩), .slice (some ⟨lf, 0, none⟩) 286 286, .slice (some ⟨lG, 0, none⟩) 30 30], none, none, [1]⟩, ⟨fun y => Row I3 (some ⟨oB, 0, none⟩) 19 19 (ad.dF l), none, none, [4, 5]⟩, ⟨fun y => Row I3 p36 316 c36 (ad.bS l), none, none, []⟩, ⟨fun y => Row I3 (some ⟨lf, 0, none⟩) 286 286 (ad.dA l), none, none, []⟩, ⟨fun y => Row I3 (some ⟨lG, 0, none⟩) 30 30 (ad.dB l), none, none, []⟩, ⟨fun y => RT, none, none, []⟩, ⟨fun y => WB gy ((ad.fV ++ ad.dX (ad.dF l) k) ++ af.aQ (I3.g (ad.dF l) (I3.g aa.dv (k : Int))) 3), some 6, none, []⟩] F V.mixed ?_
      refine nG V.Ds ?_
      refine nR (fun y FF hA => ag V.dw rfl ak rfl) ?_
      iterate 2 refine nM ?_
      refine nR (fun y FF hA => xI V.aF (own ak)) ?_
      refine nR (fun y FF hA => xL V.s3 (own ak)) ?_
      refine nE (fun y FF hA => dx (Post := [WB gy ((ad.fV ++ ad.dX (ad.dF l) k) ++ af.aQ (I3.g (ad.dF l) (I3.g aa.dv (k : Int))) 3)]) (ld gy (ad.fV ++ ad.dX (ad.dF l) k) (I3.g (ad.dF l) (I3.g aa.dv (k : Int))) 3 ⟨hf7.1, by omega⟩ (by omega) (by rw [List.length_append, ri, ad.jL _ _ (by omega)]; omega)) V.qT rfl (au .nil) (fun v G h => by rcases h with ⟨rfl, rfl⟩; exact ⟨rfl, .refl _⟩)) ?_
      refine aM ?_
      intro y hA
      clear hA
      show jD _ _ _ _ (Row I3 (some ⟨vJ, 0, none⟩) 19 19 aa.dv :: av iV 114 [.pointer (some ⟨gy, 0, none⟩), .slice (some ⟨lf, 0, none⟩) 286 286, .slice (some ⟨lG, 0, none⟩) 30 30] :: Row I3 (some ⟨oB, 0, none⟩) 19 19 (ad.dF l) :: Row I3 p36 316 c36 (ad.bS l) :: Row I3 (some ⟨lf, 0, none⟩) 286 286 (ad.dA l) :: Row I3 (some ⟨lG, 0, none⟩) 30 30 (ad.dB l) :: RT :: WB gy ((ad.fV ++ ad.dX (ad.dF l) k) ++ af.aQ (I3.g (ad.dF l) (I3.g aa.dv (k : Int))) 3) :: F)
      refine gR ?_
      refine bp ?_
      refine aW ?_
      refine oV (bU rfl rfl wI) ?_
      refine oV (aB rfl) ?_
      refine bC ?_
      rw [show (ad.fV ++ ad.dX (ad.dF l) k) ++ af.aQ (I3.g (ad.dF l) (I3.g aa.dv (k : Int))) 3 = (ad.fV ++ ad.dX (ad.dF l) (k + 1)) from by rw [List.append_assoc]; exact congrArg _ (ad.nI _ (by omega))]
      refine j1 (k + 1) ?_ (kr (aX ln)) (sub (.cons Mk (aE (lF .nil))) ao)
      exact ⟨by omega, by omega⟩
    ·
      refine rC dq 6 rfl ?_
      have hk4 : k = 19 := by omega
      rw [hk4]
      refine rC dq 2 rfl ?_
      refine ai (IG (some ⟨oB, 0, none⟩) 19 19 (ad.dF l) (Row I3 (some ⟨oB, 0, none⟩) 19 19 (ad.dF l)) (fun _ _ hh => hh.rd) hFl hgF.code) V.CW  rfl (.cons dC .nil) rfl ?_
      rintro _ _ ⟨hx, rfl, rfl⟩
      refine rO dq 16 rfl ?_
      rw [show WB gy (ad.fV ++ ad.dX (ad.dF l) 19) = WB gy (ad.fV ++ ad.dX (ad.dF l) 19 ++ ab.bits (ad.dF l) ((ad.bS l).take 0)) from by rw [List.take_zero, ab.xF, List.append_nil]]
      refine cx (fun (k : Nat) => [(0, .slice q l.length cq), (11, .pointer (some ⟨iV, 0, none⟩)), (14, .pointer (some ⟨hx, 0, none⟩)), (104, .slice p36 316 c36), (105, .int .i64 316), (106, .int .i64 (k : Int))]) (fun (k : Nat) => WB gy (ad.fV ++ ad.dX (ad.dF l) 19 ++ ab.bits (ad.dF l) ((ad.bS l).take k)) :: HC hx (ad.dF l) :: av iV 114 [.pointer (some ⟨gy, 0, none⟩), .slice (some ⟨lf, 0, none⟩) 286 286, .slice (some ⟨lG, 0, none⟩) 30 30] :: Row I3 (some ⟨oB, 0, none⟩) 19 19 (ad.dF l) :: Row I3 p36 316 c36 (ad.bS l) :: Row I3 (some ⟨lf, 0, none⟩) 286 286 (ad.dA l) :: Row I3 (some ⟨lG, 0, none⟩) 30 30 (ad.dB l) :: RT :: F) (fun (k : Nat) => k ≤ 316) (fun (k : Nat) => 316 - k) (i1 (0) ?_ (fO (aX ln)) (sub (.cons aS (au (.cons aS (.cons dg (.cons ar (.cons ar (.cons ar (.cons ar .nil)))))))) cw)) ?_
      ·
        exact Nat.zero_le _
      intro k
      rintro hk
      refine rL dq 6 rfl ?_
      refine aj rfl (fun h107 => ?_) (fun h107 => ?_)
      ·
        refine rC dq 6 rfl ?_
        refine oV (xI V.aF (own iz)) ?_
        refine oV (xL V.s3 (own iz)) ?_
        refine rO dq 3 rfl ?_
        have hk2 : k < (ad.bS l).length := by omega
        have hxm : (I3.g (ad.bS l) (k : Int)) ∈ ad.bS l := by rw [show (I3.g (ad.bS l) (k : Int)) = (ad.bS l)[k] from by simp [Ec.g, hk2]]; exact List.getElem_mem hk2
        refine rC dq 3 rfl ?_
        refine oV (ag V.dw rfl dE rfl) ?_
        refine oV (aB rfl) ?_
        refine ai (mw hx (ad.dF l) gy (ad.fV ++ ad.dX (ad.dF l) 19 ++ ab.bits (ad.dF l) ((ad.bS l).take k)) (I3.g (ad.bS l) (k : Int)) hgF.code (ad.BA hl hxm).2 (by rw [List.length_append, List.length_append, ri, ad.jL _ _ (by omega)]; have := ab.nb hVF ((ad.bS l).take k); rw [List.length_take] at this; omega)) V.CX  rfl (.cons ar (au .nil)) rfl ?_
        rintro _ _ ⟨rfl, rfl⟩
        refine bN dq 7 rfl (by omega) ?_
        rw [show (ad.fV ++ ad.dX (ad.dF l) 19 ++ ab.bits (ad.dF l) ((ad.bS l).take k)) ++ ab.wb (ad.dF l) (I3.g (ad.bS l) (k : Int)) = (ad.fV ++ ad.dX (ad.dF l) 19 ++ ab.bits (ad.dF l) ((ad.bS l).take (k + 1))) from by rw [List.append_assoc, show (I3.g (ad.bS l) (k : Int)) = (ad.bS l)[k] from (by simp [Ec.g, hk2]), ad.pw hk2]]
        refine j1 (k + 1) ?_ (fO (aX ln)) (sub (.cons ar (aE (lF .nil))) ao)
        exact ⟨by omega, by omega⟩
      ·
        refine rC dq 6 rfl ?_
        have hk5 : k = 316 := by omega
        rw [hk5, List.take_of_length_le (l := ad.bS l) (by omega)]
        have hfx : ad.lJ (ad.fV ++ ad.dX (ad.dF l) 19 ++ ab.bits (ad.dF l) (ad.bS l) ++ (ad.cv (ad.dA l) (ad.dB l) l ++ ab.wb (ad.dA l) 256)) = ad.ky l := by unfold ad.ky ad.pY; rfl
        have hWl : ((ad.fV ++ ad.dX (ad.dF l) 19 ++ ab.bits (ad.dF l) (ad.bS l) ++ (ad.cv (ad.dA l) (ad.dB l) l ++ ab.wb (ad.dA l) 256))).length < 500000000 := by
          have h1 := ad.jG (ab.cM hgA.code).1 (ab.cM hgB.code).1 (l := l) hok
          have h2 := ab.mB (ab.cM hgA.code).1 256
          have h3 := ab.nb hVF (ad.bS l)
          simp only [List.length_append, ri, ad.jL _ _ (Nat.le_refl 19), ab.jM]
          omega
        refine aW ?_
        refine oV (nW V.Bc rfl dE (vs := [_, _, _]) rfl rfl) ?_
        refine oV (aB rfl) ?_
        refine ai (E3 gy (some ⟨lf, 0, none⟩) (ad.dA l) 286 286 (some ⟨lG, 0, none⟩) (ad.dB l) 30 30 q cq l (ad.fV ++ ad.dX (ad.dF l) 19 ++ ab.bits (ad.dF l) (ad.bS l)) RT (Row I3 (some ⟨lf, 0, none⟩) 286 286 (ad.dA l)) (Row I3 (some ⟨lG, 0, none⟩) 30 30 (ad.dB l)) hRT (fun _ _ hh => hh.rd) (fun _ _ hh => hh.rd) hAl hBl hgA.code hgB.code hFi hl (by rw [List.length_append, List.length_append, ri, ad.jL _ _ (by omega)]; have := ab.nb hVF (ad.bS l); omega)) V.LZ  rfl (au (.cons L9 (.cons lh (.cons lh .nil)))) rfl ?_
        rintro _ _ ⟨rfl, rfl⟩
        refine rO dq 5 rfl ?_
        refine oV (ag V.dw rfl Mh rfl) ?_
        refine ai (Ct gy (ad.fV ++ ad.dX (ad.dF l) 19 ++ ab.bits (ad.dF l) (ad.bS l) ++ (ad.cv (ad.dA l) (ad.dB l) l ++ ab.wb (ad.dA l) 256)) hWl) V.Mc  rfl (au .nil) rfl ?_
        rintro _ _ ⟨q121, c121, rfl, rfl⟩
        refine rO dq 4 rfl ?_
        rw [hfx]
        exact an (bu rfl) ⟨q121, c121, rfl, rfl⟩ (sub (aE .nil) NO)
end Go.Proofs.YtmbljkghkcgejaaGreat
namespace Go.Proofs.YtmbljkghkcgejaaGreat
open Go.Sl 
theorem k9 : dJ Tryz.prog ⟨[22, 30], []⟩ = true := by kernel_rfl
attribute [local irreducible] ad.jh ad.k7 ad.ky ad.du ad.sN ad.eB
abbrev S8 : Ec Sx := ⟨22, 1, fun x => [.slice x.p x.n x.c], ⟨none, 0, 0⟩, fun _ => rfl, fun _ => rfl⟩
theorem LD {pa pb pd : Option Addr} {ca cb cd : Nat} {n : Nat → Nat} {n1 n2 k : Nat} (e1 : n 1 = n1) (e2 : n 2 = n2) (hk : k < 2) : S8.g [Sx.mk pb n1 cb, Sx.mk pd n2 cd] (k : Int) = Sx.mk (ad.tF pa pb pd (k + 1)) (n (k + 1)) (ad.tF ca cb cd (k + 1)) := by
  subst e1; subst e2
  have : k = 0 ∨ k = 1 := by omega
  rcases this with rfl | rfl <;> rfl
theorem EV (B : List Int) : ad.sN B 0 = (ad.jh B).length := by unfold ad.sN; rfl
theorem EG (B : List Int) : ad.sN B 1 = (ad.k7 (ad.du B)).length := by unfold ad.sN; rfl
theorem Ey (B : List Int) : ad.sN B 2 = (ad.ky (ad.du B)).length := by unfold ad.sN; rfl
theorem KZ {B : List Int} {N : Nat} (h0 : (ad.jh B).length ≤ N) (h1 : (ad.k7 (ad.du B)).length ≤ N) (h2 : (ad.ky (ad.du B)).length ≤ N) {j : Nat} (h : j ≤ 2) : ad.sN B j ≤ N := by
  rcases ad.FR h with rfl | rfl | rfl
  · rw [EV]; exact h0
  · rw [EG]; exact h1
  · rw [Ey]; exact h2
set_option maxHeartbeats 4000000 in
theorem A8 (p : Option Addr) (c : Nat) (B : List Int) (R : ae) (hR : ∀ w0 h, R w0 h → bJ U5 p B.length B w0 h) (hB : af.aY B) (hl : B.length ≤ 4194304) (hcap : B.length ≤ c) : aD Tryz.prog 49 [.slice p B.length c] [R] (aK fun v G => ∃ q cq, v = .slice q (ad.eB B).length cq ∧ G = [Row U5 q (ad.eB B).length cq (ad.eB B), R]) := by
  refine ax [(0, _)] Tryz.func49 rfl Tryz.ntmps49 rfl rfl ?_
  intro w0 F
  have hta := ad.rH B
  have hok := hta.ok hB
  have htl : (ad.du B).length ≤ B.length := ad.zO hB
  have hs0 := ad.tW hl
  have hs1 := ad.HS hok (by omega)
  have hs2 := ad.Ix hok (by omega)
  have hsb : ∀ j, j ≤ 2 → ad.sN B j ≤ 300000000 := fun j hj => KZ (by omega) (by omega) (by omega) hj
  refine rT k9 8 rfl ?_
  refine ai (ES p c B R hR hB hl) V.NB  rfl (au .nil) rfl ?_
  rintro _ _ ⟨q8, c8, rfl, rfl⟩
  refine rO k9 6 rfl ?_
  refine ai (Ep p c B R hR hl hcap) V.Nx  rfl (.cons ar .nil) rfl ?_
  rintro _ _ ⟨q10, c10, rfl, rfl⟩
  refine rO k9 7 rfl ?_
  refine ai (Ie q8 c8 (ad.du B) (Row TK q8 (ad.du B).length c8 (ad.du B)) (fun _ _ hh => hh.rd) hok (by omega)) V.GM  rfl (.cons aS .nil) rfl ?_
  rintro _ _ ⟨q12, c12, rfl, rfl⟩
  refine oV (aB rfl) ?_
  refine ai (C0 q8 c8 (ad.du B) (Row TK q8 (ad.du B).length c8 (ad.du B)) (fun _ _ hh => hh.rd) hok (by omega)) V.uV  rfl (.cons ar .nil) rfl ?_
  rintro _ _ ⟨q14, c14, rfl, rfl⟩
  refine bP (S8) [Sx.mk q12 (ad.k7 (ad.du B)).length c12, Sx.mk q14 (ad.ky (ad.du B)).length c14] V.Aw V.Nt rfl rfl rfl rfl rfl rfl ?_
  intro eU
  refine rO k9 5 rfl ?_
  rw [show ((4 : Nat), Value.slice q10 (ad.jh B).length c10) = (4, .slice (ad.tF q10 q12 q14 (ad.bi (ad.sN B) 0)) (ad.sN B (ad.bi (ad.sN B) 0)) (ad.tF c10 c12 c14 (ad.bi (ad.sN B) 0))) from by rw [show ad.bi (ad.sN B) 0 = 0 from rfl, EV]; rfl]
  refine cx (fun (k : Nat) => [(4, .slice (ad.tF q10 q12 q14 (ad.bi (ad.sN B) k)) (ad.sN B (ad.bi (ad.sN B) k)) (ad.tF c10 c12 c14 (ad.bi (ad.sN B) k))), (15, .slice (some ⟨eU, 0, none⟩) 2 2), (16, .int .i64 2), (17, .int .i64 (k : Int))]) (fun (k : Nat) => Row S8 (some ⟨eU, 0, none⟩) 2 2 [Sx.mk q12 (ad.k7 (ad.du B)).length c12, Sx.mk q14 (ad.ky (ad.du B)).length c14] :: Row U5 q14 (ad.ky (ad.du B)).length c14 (ad.ky (ad.du B)) :: Row U5 q12 (ad.k7 (ad.du B)).length c12 (ad.k7 (ad.du B)) :: Row TK q8 (ad.du B).length c8 (ad.du B) :: Row U5 q10 (ad.jh B).length c10 (ad.jh B) :: R :: F) (fun (k : Nat) => k ≤ 2) (fun (k : Nat) => 2 - k) (i1 (0) ?_ (dI ln) (sub (aE (.cons ar (.cons dg (.cons dg (.cons dg .nil))))) ao)) ?_
  ·
    exact Nat.zero_le _
  intro k
  rintro hk
  refine rL k9 6 rfl ?_
  refine aj rfl (fun h18 => ?_) (fun h18 => ?_)
  ·
    refine rC k9 6 rfl ?_
    refine oV (xI V.Aw (own ak)) ?_
    refine oV (xL V.eL (own ak)) ?_
    rw [LD (pa := q10) (ca := c10) (n := ad.sN B) (EG B) (Ey B) (show k < 2 by omega)]
    dsimp only
    have hn1 := hsb (k + 1) (by omega)
    have hbl := ad.sW (ad.sN B) k
    have hn2 := hsb (ad.bi (ad.sN B) k) (by omega)
    refine rO k9 12 rfl ?_
    refine aj rfl (fun h25 => ?_) (fun h25 => ?_)
    ·
      refine cy k9 10 rfl (by omega) ?_
      (rw [← ad.KC (n := ad.sN B) (k := k) (by omega)]; exact j1 (k + 1) ⟨by omega, by omega⟩ (dI ln) (sub (au (lF .nil)) ao))
    ·
      refine cy k9 7 rfl (by omega) ?_
      (rw [← ad.Lj (n := ad.sN B) (k := k) (by omega)]; exact j1 (k + 1) ⟨by omega, by omega⟩ (dI ln) (sub (au (lF .nil)) ao))
  ·
    refine rC k9 6 rfl ?_
    obtain rfl : k = 2 := by omega
    refine rC k9 6 rfl ?_
    have hsh : ad.eB B = ad.tF (ad.jh B) (ad.k7 (ad.du B)) (ad.ky (ad.du B)) (ad.bi (ad.sN B) 2) := by unfold ad.eB; rfl
    rcases ad.FR (ad.sW (ad.sN B) 2) with hb | hb | hb
    · rw [hb, EV]
      rw [hb] at hsh
      have hsh2 : ad.eB B = _ := hsh
      rw [hsh2]
      exact an (bu rfl) ⟨q10, c10, rfl, rfl⟩ (sub (.cons lh (.cons lh .nil)) kT)
    · rw [hb, EG]
      rw [hb] at hsh
      have hsh2 : ad.eB B = _ := hsh
      rw [hsh2]
      exact an (bu rfl) ⟨q12, c12, rfl, rfl⟩ (sub (.cons aS (.cons lh .nil)) kT)
    · rw [hb, Ey]
      rw [hb] at hsh
      have hsh2 : ad.eB B = _ := hsh
      rw [hsh2]
      exact an (bu rfl) ⟨q14, c14, rfl, rfl⟩ (sub (.cons ar (.cons lh .nil)) kT)
end Go.Proofs.YtmbljkghkcgejaaGreat
namespace Go.Proofs.YtmbljkghkcgejaaGreat
open Go.Sl 
theorem eh : dJ Tryz.prog ⟨[22], [(85, 0, 0), (85, 1, 1), (85, 2, 2), (85, 3, 3)]⟩ = true := by kernel_rfl
attribute [local irreducible] ad.eB
structure Dv where
 p1 : Option Addr
 n1 : Nat
 c1 : Nat
 t : Int
 p2 : Option Addr
 c2 : Nat
def DN (b : Nat) (B : List Int) (t : Nat) : ae := fun w0 h => ∃ i : Lv, True ∧ cA w0 [av b 85 [.slice i.p1 B.length i.c1, .slice none 0 0, .int .i64 (t : Int), .bool false], Row U5 i.p1 B.length i.c1 B] h
def DD (b : Nat) (z : List Int) : ae := fun w0 h => ∃ i : Dv, True ∧ cA w0 [av b 85 [.slice i.p1 i.n1 i.c1, .slice i.p2 z.length i.c2, .int .i64 i.t, .bool true], Row U5 i.p2 z.length i.c2 z] h
theorem vV {b : Nat} {B : List Int} {t : Nat} {p : Option Addr} {c : Nat} {w0 : World} {h : Hp} (hh : cA w0 [av b 85 [.slice p B.length c, .slice none 0 0, .int .i64 (t : Int), .bool false], Row U5 p B.length c B] h) : DN b B t w0 h := ⟨⟨p, c, none, 0⟩, trivial, hh⟩
theorem su {b : Nat} {z : List Int} {t : Int} {p p2 : Option Addr} {n c c2 : Nat} {w0 : World} {h : Hp} (hh : cA w0 [av b 85 [.slice p n c, .slice p2 z.length c2, .int .i64 t, .bool true], Row U5 p2 z.length c2 z] h) : DD b z w0 h := ⟨⟨p, n, c, t, p2, c2⟩, trivial, hh⟩
def DM (b : Nat) (B : List Int) : Option Nat → ae
 | some t => DN b B t
 | none => DD b (ad.eB B)
def NZ (B : List Int) (s : Option Nat) (n : Int) : Option Nat :=
 match s with
 | none => none
 | some t => if n < 1 then some t else if (B.length : Int) ≤ t + n then none else some (t + n.toNat)
theorem Lm (p : Option Addr) (c : Nat) (B : List Int) (R : ae) (hR : ∀ w0 h, R w0 h → bJ U5 p B.length B w0 h) (hl : B.length ≤ 4194304) : aD Tryz.prog 33 [.slice p B.length c] [R] (aK fun v G => ∃ b, v = .pointer (some ⟨b, 0, none⟩) ∧ G = [DN b B 0, R]) := by
 refine ax [(0, _)] Tryz.func33 rfl Tryz.ntmps33 rfl rfl ?_
 intro w0 F
 refine rT eh 10 rfl ?_
 refine oV (bA (cB rfl rfl) (by omega)) ?_
 refine rO eh 8 rfl ?_
 refine ai (mQ p c B R hR (by omega)) V.w6  rfl (au .nil) rfl ?_
 rintro _ _ ⟨q9, c9, rfl, rfl⟩
 refine oV (eP V.MY V.z85 rfl (cs := [_, _, _, _]) rfl) ?_
 refine fG rfl (cs := [_, _, _, _]) rfl rfl ?_
 intro iV
 refine rO eh 4 rfl ?_
 exact an (bu rfl) ⟨iV, rfl, rfl⟩ (Sl.Sub.trans (aG (aE .nil) .refl (fun w0 h hh => vV hh)) (sub (aE .nil) ao))
theorem Hy (b : Nat) (z : List Int) : aD Tryz.prog 50 [.pointer (some ⟨b, 0, none⟩)] [DD b z] (aK fun v G => v = .bool true ∧ G = [DD b z]) := by
 refine ax [(0, _)] Tryz.func50 rfl Tryz.ntmps50 rfl rfl ?_
 intro w0 F
 refine eK (fun h hh => hh) ?_
 rintro ⟨p1, n1, c1, t, p2, c2⟩ _
 dsimp only
 simp only [List.cons_append, List.nil_append]
 refine rT eh 8 rfl ?_
 refine oV (de (v := .bool true) (tQ Tryz.underlying69 rfl rfl) rfl) ?_
 refine rO eh 4 rfl ?_
 refine al rfl ?_
 refine oV (ag V.s4 rfl ak rfl) ?_
 refine rO eh 5 rfl ?_
 exact an (bu rfl) ⟨rfl, rfl⟩ (Sl.Sub.trans (aG (aE .nil) .refl (fun w0 h hh => su hh)) (sub (au .nil) ao))
theorem Jx (b : Nat) (z : List Int) (hz : z.length < 500000000) : aD Tryz.prog 35 [.pointer (some ⟨b, 0, none⟩)] [DD b z] (aK fun v G => ∃ q c, v = .slice q z.length c ∧ G = [Row U5 q z.length c z, DD b z]) := by
 refine ax [(0, _)] Tryz.func35 rfl Tryz.ntmps35 rfl rfl ?_
 intro w0 F
 refine rT eh 9 rfl ?_
 refine ai (Hy b z) V.sb  rfl (au .nil) rfl ?_
 rintro _ _ ⟨rfl, rfl⟩
 refine rO eh 7 rfl ?_
 refine eK (fun h hh => hh) ?_
 rintro ⟨p1, n1, c1, t, p2, c2⟩ _
 dsimp only
 simp only [List.cons_append, List.nil_append]
 refine rC eh 4 rfl ?_
 refine oV (ag V.eL rfl ak rfl) ?_
 refine ai (mQ p2 c2 z (Row U5 p2 z.length c2 z) (fun _ _ hh => hh.rd) hz) V.w6  rfl (.cons ar .nil) rfl ?_
 rintro _ _ ⟨q10, c10, rfl, rfl⟩
 refine rO eh 4 rfl ?_
 exact an (bu rfl) ⟨q10, c10, rfl, rfl⟩ (Sl.Sub.trans (aG (.cons aS (.cons ar .nil)) .refl (fun w0 h hh => su hh)) (sub (.cons ar (au .nil)) ao))
set_option maxHeartbeats 2000000 in
theorem Mo (b : Nat) (B : List Int) (t : Nat) (n : Int) (hn : 1 ≤ n) (ht : t ≤ B.length) (hl : B.length ≤ 4194304) (hlt : t + n < B.length) : aD Tryz.prog 34 [.pointer (some ⟨b, 0, none⟩), .int .i64 n] [DN b B t] (aK fun v G => v = .bool false ∧ G = [DN b B (t + n.toNat)]) := by
 refine ax [(0, _), (1, _)] Tryz.func34 rfl Tryz.ntmps34 rfl rfl ?_
 intro w0 F
 refine eK (fun h hh => hh) ?_
 rintro ⟨p1, c1, p2, c2⟩ _
 dsimp only
 simp only [List.cons_append, List.nil_append]
 refine rT eh 9 rfl ?_
 refine oV (de (v := .bool false) (fS Tryz.underlying69 rfl rfl) rfl) ?_
 refine rO eh 9 rfl ?_
 refine oV (bA (bZ rfl rfl) (by omega)) ?_
 refine rO eh 4 rfl ?_
 refine al rfl ?_
 refine oV (ag V.s4 rfl ak rfl) ?_
 refine rO eh 7 rfl ?_
 refine wN [pz 0 [] [0], pz 1 [0] [], pz 3 [1] [], pz 7 [2] [], pz 0 [] [1], pz 0 [] [0], pz 32 [5] [], pz 96 [6] [], pz 224 [7] [], pz 480 [8] [], pz 0 [] [0], pz 1024 [10] [], pz 3072 [11] [], pz 7168 [12] [], pz 16352 [9, 13] [], pz 32752 [4, 14] [], pz 65535 [3, 15] [], pz 131071 [0] [], pz 262143 [17] [], pz 524287 [18, 16] []] [⟨fun y => av b 85 [.slice p1 B.length c1, .slice none 0 0, .int .i64 (t : Int), .bool false], none, some 19, [3, 8, 13]⟩, ⟨fun y => Row U5 p1 B.length c1 B, none, none, []⟩, ⟨fun y => av b 85 [.slice p1 B.length c1, .slice none 0 0, .int .i64 ((t + n.toNat : Nat) : Int), .bool false], some 19, none, []⟩] F V.mixed ?_
 refine nM ?_
 refine nN ?_
 refine nG V.rW ?_
 refine nR (fun y FF hA => ag V.s3 rfl ak rfl) ?_
 iterate 2 refine nM ?_
 refine nN ?_
 refine nG V.Gy ?_
 refine nR (fun y FF hA => ag V.eL rfl ak rfl) ?_
 refine nV (fun y hA L => eF (ty' := 0) Tryz.underlying22 rfl) ?_
 refine nM ?_
 refine nN ?_
 refine nG V.rW ?_
 refine nR (fun y FF hA => ag V.s3 rfl ak rfl) ?_
 refine nV (fun y hA L => dD rfl rfl wI) ?_
 refine nV (fun y hA L => de (v := .int .i64 n) (vF rfl rfl) (by rw [if_neg (by omega)])) ?_
 refine nV (fun y hA L => de (v := .int .i64 ((t + n.toNat : Nat) : Int)) (bU rfl rfl wI) (by congr 1; omega)) ?_
 refine nN ?_
 refine nG V.rW ?_
 refine nE (fun y FF hA => cu (bV V.s3 rfl rfl rfl (by exact dO) (by exact Nat.le_of_ble_eq_true rfl) rfl) ⟨rfl, .refl _⟩) ?_
 refine aM ?_
 intro y hA
 clear hA
 refine bp ?_
 refine bW _ (.cons (d := 0) rfl (.nil _)) ?_
 refine bR (M := Row U5 p1 B.length c1 B :: av b 85 [.slice p1 B.length c1, .slice none 0 0, .int .i64 ((t + n.toNat : Nat) : Int), .bool false] :: F) (fun _ _ h => h) ?_
 refine rC eh 2 rfl ?_
 refine lz V.mixed (by kernel_rfl) ?_
 refine rR eh 3 rfl ?_
 refine oR (ag V.s3 rfl bB rfl) ?_
 refine rR eh 3 rfl ?_
 refine oR (ag V.eL rfl bB rfl) ?_
 refine oR (eF (ty' := 0) Tryz.underlying22 rfl) ?_
 refine oR (bA (cg rfl rfl) (by omega)) ?_
 refine Rg.bC ?_
 refine rN eh 9 rfl ?_
 refine oV (ag V.s4 rfl bB rfl) ?_
 refine rO eh 4 rfl ?_
 exact an (bu rfl) ⟨rfl, rfl⟩ (Sl.Sub.trans (aG (.cons ar (au .nil)) .refl (fun w0 h hh => vV hh)) (sub (au .nil) ao))
set_option maxHeartbeats 2000000 in
theorem Ev (b : Nat) (B : List Int) (t : Nat) (n : Int) (hn : 1 ≤ n) (ht : t ≤ B.length) (hl : B.length ≤ 4194304) (hge : B.length ≤ t + n) (hB : af.aY B) : aD Tryz.prog 34 [.pointer (some ⟨b, 0, none⟩), .int .i64 n] [DN b B t] (aK fun v G => v = .bool true ∧ G = [DD b (ad.eB B)]) := by
 refine ax [(0, _), (1, _)] Tryz.func34 rfl Tryz.ntmps34 rfl rfl ?_
 intro w0 F
 refine eK (fun h hh => hh) ?_
 rintro ⟨p1, c1, p2, c2⟩ _
 dsimp only
 simp only [List.cons_append, List.nil_append]
 refine rT eh 9 rfl ?_
 refine oV (de (v := .bool false) (fS Tryz.underlying69 rfl rfl) rfl) ?_
 refine rO eh 9 rfl ?_
 refine oV (bA (bZ rfl rfl) (by omega)) ?_
 refine rO eh 4 rfl ?_
 refine al rfl ?_
 refine oV (ag V.s4 rfl ak rfl) ?_
 refine rO eh 7 rfl ?_
 refine wN [pz 0 [] [0], pz 1 [0] [], pz 3 [1] [], pz 7 [2] [], pz 0 [] [1], pz 0 [] [0], pz 32 [5] [], pz 96 [6] [], pz 224 [7] [], pz 480 [8] [], pz 0 [] [0], pz 1024 [10] [], pz 3072 [11] [], pz 7168 [12] [], pz 16352 [9, 13] [], pz 32752 [4, 14] [], pz 65535 [3, 15] [], pz 131071 [0] [], pz 262143 [17] [], pz 524287 [18, 16] []] [⟨fun y => av b 85 [.slice p1 B.length c1, .slice none 0 0, .int .i64 (t : Int), .bool false], none, some 19, [3, 8, 13]⟩, ⟨fun y => Row U5 p1 B.length c1 B, none, none, []⟩, ⟨fun y => av b 85 [.slice p1 B.length c1, .slice none 0 0, .int .i64 (B.length : Int), .bool false], some 19, none, []⟩] F V.mixed ?_
 refine nM ?_
 refine nN ?_
 refine nG V.rW ?_
 refine nR (fun y FF hA => ag V.s3 rfl ak rfl) ?_
 iterate 2 refine nM ?_
 refine nN ?_
 refine nG V.Gy ?_
 refine nR (fun y FF hA => ag V.eL rfl ak rfl) ?_
 refine nV (fun y hA L => eF (ty' := 0) Tryz.underlying22 rfl) ?_
 refine nM ?_
 refine nN ?_
 refine nG V.rW ?_
 refine nR (fun y FF hA => ag V.s3 rfl ak rfl) ?_
 refine nV (fun y hA L => dD rfl rfl wI) ?_
 refine nV (fun y hA L => de (v := .int .i64 ((B.length : Int) - t)) (vF rfl rfl) (by split <;> first | rfl | (congr 1; omega))) ?_
 refine nV (fun y hA L => de (v := .int .i64 (B.length : Int)) (bU rfl rfl wI) (by congr 1; omega)) ?_
 refine nN ?_
 refine nG V.rW ?_
 refine nE (fun y FF hA => cu (bV V.s3 rfl rfl rfl (by exact dO) (by exact Nat.le_of_ble_eq_true rfl) rfl) ⟨rfl, .refl _⟩) ?_
 refine aM ?_
 intro y hA
 clear hA
 refine bp ?_
 refine bW _ (.cons (d := 0) rfl (.nil _)) ?_
 refine bR (M := Row U5 p1 B.length c1 B :: av b 85 [.slice p1 B.length c1, .slice none 0 0, .int .i64 (B.length : Int), .bool false] :: F) (fun _ _ h => h) ?_
 refine rC eh 2 rfl ?_
 refine lz V.mixed (by kernel_rfl) ?_
 refine rR eh 3 rfl ?_
 refine oR (ag V.s3 rfl bB rfl) ?_
 refine rR eh 3 rfl ?_
 refine oR (ag V.eL rfl bB rfl) ?_
 refine oR (eF (ty' := 0) Tryz.underlying22 rfl) ?_
 refine oR (ck (cg rfl rfl) (by omega)) ?_
 refine Rg.bC ?_
 refine rN eh 2 rfl ?_
 refine od (fun w hi => xD hi ak (fun _ _ hh => zi (c := U5) (p := p1) (n := B.length) (cap := c1) (l := B) hh)) (fun hcap => ?_)
 refine rC eh 6 rfl ?_
 refine oV (ag V.eL rfl bB rfl) ?_
 refine ai (A8 p1 c1 B (Row U5 p1 B.length c1 B) (fun _ _ hh => hh.rd) hB hl hcap) V.Ng  rfl (au .nil) rfl ?_
 rintro _ _ ⟨q54, c54, rfl, rfl⟩
 refine rO eh 2 rfl ?_
 refine bM (bV V.eL rfl rfl rfl (by exact nc) (by exact Nat.le_of_ble_eq_true rfl) rfl) ?_
 refine rO eh 2 rfl ?_
 refine bM (bV V.s4 rfl rfl rfl (by exact nc) (by exact Nat.le_of_ble_eq_true rfl) rfl) ?_
 refine rO eh 7 rfl ?_
 refine oV (ag V.s4 rfl dE rfl) ?_
 refine rO eh 4 rfl ?_
 exact an (bu rfl) ⟨rfl, rfl⟩ (Sl.Sub.trans (aG (.cons aS (au .nil)) .refl (fun w0 h hh => su hh)) (sub (au .nil) cw))
end Go.Proofs.YtmbljkghkcgejaaGreat
namespace Go.Proofs.YtmbljkghkcgejaaGreat
open Go.Sl 
theorem l8 : dJ Tryz.prog ⟨[], []⟩ = true := by kernel_rfl
attribute [local irreducible] ad.eB
theorem KW (p : Option Addr) (c : Nat) (B : List Int) (R : ae) (hR : ∀ w0 h, R w0 h → bJ U5 p B.length B w0 h) (hl : B.length ≤ 4194304) (hB : af.aY B) : aD Tryz.prog 18 [.slice p B.length c] [R] (aK fun v G => ∃ q c, v = .slice q (ad.eB B).length c ∧ G = [Row U5 q (ad.eB B).length c (ad.eB B), R]) := by
  refine ax [(0, _)] Tryz.func18 rfl Tryz.ntmps18 rfl rfl ?_
  intro w0 F
  have hsl := ad.qG (B := B) hB hl
  refine rT l8 8 rfl ?_
  refine ai (Lm p c B R hR hl) V.LV  rfl (au .nil) rfl ?_
  rintro _ _ ⟨b5, rfl, rfl⟩
  refine rO l8 6 rfl ?_
  refine ai (Ev b5 B 0 4194304 (by omega) (by omega) hl (by omega) hB) V.Na  rfl (au .nil) rfl ?_
  rintro _ _ ⟨rfl, rfl⟩
  refine rO l8 5 rfl ?_
  refine ai (Jx b5 (ad.eB B) (by omega)) V.JU  rfl (au .nil) rfl ?_
  rintro _ _ ⟨q9, c9, rfl, rfl⟩
  refine rO l8 4 rfl ?_
  exact an (bu rfl) ⟨q9, c9, rfl, rfl⟩ (sub (au (.cons ar .nil)) cw)
theorem IN (n : Int) (hn : n ≤ 1000000000000) : aD Tryz.prog 19 [.int .i64 n] [] (aK fun v G => v = .int .i64 (ad.most n) ∧ G = []) := by
  refine ax [(0, _)] Tryz.func19 rfl Tryz.ntmps19 rfl rfl ?_
  intro w0 F
  have hx := ad.IE n
  have hxl : (ad.jJ n) ≤ 1000000000000 := by unfold ad.jJ; split <;> omega
  have hq : 0 ≤ (ad.jJ n) / 65535 ∧ (ad.jJ n) / 65535 ≤ (ad.jJ n) := ⟨Int.ediv_nonneg hx (by decide), Int.ediv_le_self _ hx⟩
  refine rT l8 8 rfl ?_
  refine oV (de (v := .int .i64 (ad.jJ n)) (vG rfl rfl) (by unfold ad.jJ; rfl)) ?_
  refine rO l8 6 rfl ?_
  refine oV (ke (r := (ad.jJ n) / 65535) rfl rfl (by decide) (lN (by omega) (by omega) (by omega))) ?_
  refine rO l8 7 rfl ?_
  refine oV (ic (r := (ad.jJ n) % 65535) rfl rfl (by decide) (jx (by omega))) ?_
  refine rO l8 3 rfl ?_
  refine aj rfl (fun h10 => ?_) (fun h10 => ?_)
  ·
    refine cy l8 17 rfl (by omega) ?_
    (rw [show Value.int .i64 _ = .int .i64 (ad.most n) from congrArg _ (ad.Eg (by assumption)).symm]; exact an (G := []) (bu rfl) ⟨rfl, rfl⟩ (sub .nil ao))
  ·
    refine cy l8 13 rfl (by omega) ?_
    exact an (bu rfl) ⟨by rw [ad.Hj (by assumption)], rfl⟩ (sub .nil ao)
section
variable (b : Nat) (B : List Int) (s : Option Nat)
def Oz (B : List Int) : Option Nat → Prop
  | some t => t ≤ B.length
  | none => True
def Oh (B : List Int) : Option Nat → List Int
  | some _ => []
  | none => ad.eB B
end
end Go.Proofs.YtmbljkghkcgejaaGreat

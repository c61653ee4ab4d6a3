/- Walks of functions that the law reaches, and what they lean on; no conditions. -/
import Derived.Test.YtmaiakpjgomnpaaGreatM0
import Derived.Test.YtmaiakpjgomnpaaGreatM4
import Derived.Test.YtmaiakpjgomnpaaGreatM2
import Derived.Test.YtmaiakpjgomnpaaGreatM1
import Derived.KernelRfl
import Derived.Test.YtmaiakpjgomnpaaGreatM8
set_option linter.unusedVariables false
set_option linter.unusedSimpArgs false
set_option maxRecDepth 100000
namespace Go.Proofs.YtmaiakpjgomnpaaGreat
open Go.Sl 
attribute [local irreducible] af.ak aJ.gI aa.cP aa.aU aa.eA aa.cY aa.bY aa.jO aa.eI aa.two aa.jh aa.jV aa.js aa.parts
abbrev ua (P : List Int) (W H : Nat) (b : Nat) (q : Option Addr) (c : Nat) : List Ce := [Ce.mk aa.bQ (some ⟨b, 0, none⟩) 13 (aa.hB (W : Int) (H : Int)), Ce.mk aa.ba q c (aa.cP (aa.bY P W H)), Ce.mk aa.aY none 0 []]
theorem NA {P : List Int} {W H : Nat} (s : aa.Sz P W H) (b : Nat) (q : Option Addr) (c : Nat) : ∀ x ∈ ua P W H b q c, aa.js x.ch := fun x hx => by
 simp only [ua, List.mem_cons, List.not_mem_nil, or_false] at hx
 rcases hx with rfl | rfl | rfl
 ·exact (aa.sM s _ (List.mem_cons_self ..)).1
 ·exact (aa.sM s _ (List.mem_cons_of_mem _ (List.mem_cons_self ..))).1
 ·exact aa.nL
theorem Jp (P : List Int) (W H : Nat) (b : Nat) (q : Option Addr) (c : Nat) : aa.aU ((ua P W H b q c).map Ce.ch) = aa.eI P W H := by
 unfold aa.eI aa.kE
 rfl
theorem NS {P : List Int} {W H : Nat} {b : Nat} {q : Option Addr} {c c1 : Nat} {w0 : World} {h : Hp} (hh : bU w0 [Row U5 (some ⟨b, 0, none⟩) 13 c1 (aa.hB (W : Int) (H : Int)), Row U5 q (aa.cP (aa.bY P W H)).length c (aa.cP (aa.bY P W H))] h) : DK (ua P W H b q c) w0 h := by
 obtain ⟨h1, h2, _, l1, l2, a, h3, h4, _, l3, l4, d, _⟩ := hh
 intro x hx
 simp only [ua, List.mem_cons, List.not_mem_nil, or_false] at hx
 rcases hx with rfl | rfl | rfl
 ·exact (Row.NT a).mono l1
 ·exact (Row.NT d).mono (Hp.le_trans l3 l2)
 ·exact ⟨rfl, .inl rfl⟩
set_option maxHeartbeats 8000000 in
theorem KJ (P : List Int) (W H : Nat) (hs : aa.Sz P W H) (q : Option Addr) (cc : Nat) (hcap : P.length ≤ cc) (R : ab) (hR : ∀ w0 h, R w0 h → aE (aD 62 .u16) q P.length P w0 h) : aC Tryz.prog 22 [.agg #[.int .i64 (W : Int), .int .i64 (H : Int), .slice q P.length cc]] [R] (aG fun v G => ∃ q2 c2, v = .slice q2 (aa.eI P W H).length c2 ∧ G = [Row U5 q2 (aa.eI P W H).length c2 (aa.eI P W H), R]) := by
 refine au [(0, _)] Tryz.func22 rfl Tryz.ntmps22 rfl rfl ?_
 intro w0 F
 have hn := aa.Xw hs
 have hw := hs.w
 have hh := hs.h
 refine (Qr)<|(rF) ?_
 intro b1
 refine (QK)<|(vg) ?_
 rw [show Row U5 none 0 0 [] = Row U5 none (aa.bY P W 0).length 0 (aa.bY P W 0) from by unfold aa.bY; rfl, show ((3 : Nat), Value.slice none 0 0) = (3, .slice none (aa.bY P W 0).length 0) from by unfold aa.bY; rfl]
 refine gM (fun (y : Nat) (po : Option Addr) (co : Nat) => [(1, .pointer (some ⟨b1, 0, none⟩)), (3, .slice po (aa.bY P W y).length co), (4, .int .i64 (y : Int))]) (fun (y : Nat) (po : Option Addr) (co : Nat) => Row U5 po (aa.bY P W y).length co (aa.bY P W y) :: ai b1 26 [.int .i64 (W : Int), .int .i64 (H : Int), .slice q P.length cc] :: R :: F) (fun (y : Nat) (po : Option Addr) (co : Nat) => y ≤ H) (fun (y : Nat) (po : Option Addr) (co : Nat) => H - y) (i3 (0) (none) (0) ?_ (fz ln) (sub (fQ .nil) ao)) ?_
 ·exact Nat.zero_le _
 intro y po co
 rintro hy
 refine rL TT 5 rfl<|(QU)<|(Qe) ?_
 refine aF rfl (fun h13 => ?_) (fun h13 => ?_)
 ·refine (Qg) ?_
  have hle := aa.zD (y := y) hs (by omega)
  refine (Qa) ?_
  refine cM (U5) [0] V.bK V.z5 rfl rfl rfl rfl rfl rfl ?_
  intro Ol
  refine (Fm) ?_
  intro p18 c18
  refine (Qn) ?_
  rw [show (aa.bY P W y).length + 1 = (aa.jO P W y 0).length from by rw [← aa.Ey, List.length_append]; rfl, aa.Ey]
  refine gM (fun (i : Nat) (pi : Option Addr) (ci : Nat) => [(1, .pointer (some ⟨b1, 0, none⟩)), (3, .slice pi (aa.jO P W y i).length ci), (4, .int .i64 (y : Int)), (5, .int .i64 (i : Int))]) (fun (i : Nat) (pi : Option Addr) (ci : Nat) => Row U5 pi (aa.jO P W y i).length ci (aa.jO P W y i) :: ai b1 26 [.int .i64 (W : Int), .int .i64 (H : Int), .slice q P.length cc] :: R :: F) (fun (i : Nat) (pi : Option Addr) (ci : Nat) => i ≤ 4 * W) (fun (i : Nat) (pi : Option Addr) (ci : Nat) => 4 * W - i) (i3 (0) (_) (_) ?_ (eQ ln) (sub (aq (.cons ay (.cons ay .nil))) bC)) ?_
  ·exact Nat.zero_le _
  intro i pi ci
  rintro hi
  refine rL TT 5 rfl<|(QU)<|(vK) ?_
  refine aF rfl (fun h23 => ?_) (fun h23 => ?_)
  ·refine (Qg) ?_
   have hsg := aa.EV (y := y) (i := i) hs.len (by omega) (by omega)
   have hWy : 4 * (W : Int) * (y : Int) = ((4 * W * y : Nat) : Int) := by rw [Int.natCast_mul, Int.natCast_mul]; rfl
   have hq : (aD 62 .u16).g P (((4 * W * y : Nat) : Int) + (i : Int)) = (P.getD (4 * W * y + i) 0) := gE (4 * W * y + i) (by omega)
   have hv := hs.u.get (4 * W * y + i)
   refine (Qa) ?_
   refine oV (az V.rz rfl dM rfl)<|(FN)<|(QU)<|(vA) ?_
   refine oV (fP (r := ((4 * W * y : Nat) : Int)) rfl rfl (by rw [hWy]; exact eX (by omega) (by omega)))<|(vA) ?_
   refine oV (xI V.ga (by exact bG hR dL))<|oV (xL V.lr (by exact bG hR dL)) ?_
   rw [hq]
   refine (Qe) ?_
   have hle := aa.LF (y := y) (i := i) hs (by omega) (by omega)
   refine (Q4) ?_
   refine oV (dP (r := (P.getD (4 * W * y + i) 0) / 256) rfl rfl (by decide) (af.lA (k := 8) (by decide) rfl))<|oV (cW V.Wr Tryz.underlying5 rfl (qP (by omega) (by omega)))<|(Q6) ?_
   refine oV (cW V.Wr Tryz.underlying5 rfl (aa.fY _))<|cM (U5) [(P.getD (4 * W * y + i) 0) / 256, (P.getD (4 * W * y + i) 0) % 256] V.bK V.z5 rfl rfl rfl rfl rfl rfl ?_
   intro b43
   refine (Fm) ?_
   intro p44 c44
   refine (tG) ?_
   have hfin := aa.Mz (y := y) (i := i) hs.len (by omega) (by omega)
   have hln : (aa.jO P W y i).length + 2 = (aa.jO P W y (i + 1)).length := by rw [← hfin, List.length_append]; rfl
   rw [hfin, hln]
   exact j3 (i + 1) _ _ ⟨by omega, by omega⟩ (eQ ln) (sub (aq (.cons ay (.cons ay .nil))) bC)
  ·refine jz TT 11 rfl (by omega) ?_
   obtain rfl : i = 4 * W := by omega
   rw [aa.RT hs.len (by omega)]
   exact j3 (y + 1) _ _ ⟨by omega, by omega⟩ (fz ln) (sub (fQ .nil) ao)
 ·refine rC TT 8 rfl<|(QU) ?_
  refine oV (dP (r := (W : Int) / 256) rfl rfl (by decide) (af.lA (k := 8) (by decide) rfl))<|(pU)<|(FN)<|(QU)<|(wU)<|(Ij)<|(QU) ?_
  refine oV (dP (r := (H : Int) / 256) rfl rfl (by decide) (af.lA (k := 8) (by decide) rfl))<|(pU)<|(Ij)<|(QU)<|(wU) ?_
  refine wR (T := 5) (k := .u8) (aa.hB (W : Int) (H : Int)) V.bK V.z5 rfl rfl rfl rfl ?_
  intro b59
  refine (Q8) ?_
  obtain rfl : H = y := by omega
  have hle := aa.nb hs
  have hpl := aa.qn hs
  have hcl := aa.nj (B := aa.bY P W H) (by omega)
  refine gU (fun w hi => eZ hi (show Row U5 po (aa.bY P W H).length co (aa.bY P W H) ∈ _ by exact dM)) (fun hco => ?_)
  refine (Qa)<|(JD)<|(Q6) ?_
  refine aj (AJ po co (aa.bY P W H) (Row U5 po (aa.bY P W H).length co (aa.bY P W H)) (fun w0 h hh => ⟨hh.1, hh.2.rd⟩) (by omega) (aa.ot W hs.u H) hco) V.IN  rfl (.cons ay .nil) rfl ?_
  rintro _ _ ⟨qz, cz, rfl, rfl⟩
  iterate 2 refine oV (c5 V.Hr V.E3 rfl (cs := [_, _]) rfl) ?_
  refine cM (aQ) (ua P W H b59 qz cz) V.n5 V.E3 rfl rfl rfl rfl rfl rfl ?_
  intro Iw
  refine TG (aM (A := DK (ua P W H b59 qz cz)) (.cons dw (.cons ay .nil)) ao (fun w0 h hh => NS (P := P) (W := W) (H := H) hh))<|aj (SC (some ⟨Iw, 0, none⟩) 3 (ua P W H b59 qz cz) (Row aQ (some ⟨Iw, 0, none⟩) 3 3 (ua P W H b59 qz cz)) (fun w0 h hh => ⟨hh.1, hh.2.rd⟩) (show 3 ≤ 262144 by decide) (NA hs _ _ _) (by rw [Jp, hpl]; omega)) V.UZ  rfl (.cons ay (aq .nil)) rfl ?_
  rintro _ _ ⟨qj, cj, rfl, rfl⟩
  rw [Jp]
  refine (QP) ?_
  exact ag (aw rfl) ⟨_, _, rfl, rfl⟩ (sub (aq (.cons iG .nil)) k6)
end Go.Proofs.YtmaiakpjgomnpaaGreat
namespace Go.Proofs.YtmaiakpjgomnpaaGreat
open Go.Sl
theorem V.Ix : aB Tryz.prog 14 = true := by kernel_rfl
theorem V.YK : aB Tryz.prog 22 = true := by kernel_rfl
end Go.Proofs.YtmaiakpjgomnpaaGreat
namespace Go.Proofs.YtmaiakpjgomnpaaGreat
open Go.Sl 
attribute [local irreducible] af.ak aJ.gI aa.cP aa.aU aa.eA aa.cY aa.bY aa.eI aa.two aa.jh aa.jV aa.js
set_option maxHeartbeats 8000000 in
theorem Lz  : aC Tryz.prog 13 [] [] (aG fun v G => v = .bool true ∧ G = []) := by
 refine au [] Tryz.func13 rfl Tryz.ntmps13 rfl rfl ?_
 intro w0 F
 refine rT TT 7 rfl<|aj (K1 1 1 (by decide)) V.mR  rfl .nil rfl ?_
 rintro _ _ ⟨bq, rfl, rfl⟩
 rw [show (4 * (1 : Int) * 1).toNat = 4 from rfl, show List.replicate 4 (0 : Int) = [0, 0, 0, 0] from rfl]
 refine (Qe)<|(tA) ?_
 intro b1
 refine (Ai) ?_
 refine (Q8) ?_
 refine wN [pz 0 [] [1], pz 1 [0] [], pz 0 [] [1], pz 4 [2] [], pz 3 [1] [], pz 19 [4] [], pz 63 [3] [], pz 127 [6] []] [⟨fun y => ai b1 26 [.int .i64 1, .int .i64 1, .slice (some ⟨bq, 0, none⟩) 4 4], none, none, [1, 3]⟩, ⟨fun y => Row (aD 62 .u16) (some ⟨bq, 0, none⟩) 4 4 [0, 0, 0, 0], none, some 5, [4]⟩, ⟨fun y => Row (aD 62 .u16) (some ⟨bq, 0, none⟩) 4 4 (([0, 0, 0, 0]).set (2 : Int).toNat 7), some 5, some 7, [6]⟩, ⟨fun y => Row (aD 62 .u16) (some ⟨bq, 0, none⟩) 4 4 ((([0, 0, 0, 0]).set (2 : Int).toNat 7).set (3 : Int).toNat 65535), some 7, none, []⟩] F V.mixed ?_
 refine nG V.sG ?_
 refine (Iz) ?_
 refine nG V.sG ?_
 refine (Iz) ?_
 refine (VB) ?_
 refine (UR) ?_
 refine (VB) ?_
 refine (UR) ?_
 refine (Qb) ?_
 intro y hA
 clear hA
 refine bg<|bD _ (.cons (d := 1) rfl (.nil _))<|bb (M := ai b1 26 [.int .i64 1, .int .i64 1, .slice (some ⟨bq, 0, none⟩) 4 4] :: Row (aD 62 .u16) (some ⟨bq, 0, none⟩) 4 4 ((([0, 0, 0, 0]).set (2 : Int).toNat 7).set (3 : Int).toNat 65535) :: F) (fun _ _ h => h)<|(Q9) ?_
 rw [show (([0, 0, 0, 0] : List Int).set ((2 : Int)).toNat 7).set ((3 : Int)).toNat 65535 = [0, 0, 7, 65535] from rfl]
 have hpl := aa.qn aa.EN
 have hrl := aa.nb aa.EN
 have hcl := aa.nj (B := aa.bY [0, 0, 7, 65535] 1 1) (by omega)
 refine (Qo)<|(xy) ?_
 refine aj (KJ [0, 0, 7, 65535] 1 1 aa.EN (some ⟨bq, 0, none⟩) 4 (by decide) (Row (aD 62 .u16) (some ⟨bq, 0, none⟩) 4 4 [0, 0, 7, 65535]) (fun w0 h hh => ⟨hh.1, hh.2.rd⟩)) V.YK  rfl (.cons ay .nil) rfl ?_
 rintro _ _ ⟨q2, c2, rfl, rfl⟩
 refine wS (fun w hi => eZ hi (show Row U5 q2 (aa.eI [0, 0, 7, 65535] 1 1).length c2 (aa.eI [0, 0, 7, 65535] 1 1) ∈ _ by exact aA)) (fun hc2 => ?_)
 refine aj (ou q2 c2 (aa.eI [0, 0, 7, 65535] 1 1) (Row U5 q2 (aa.eI [0, 0, 7, 65535] 1 1).length c2 (aa.eI [0, 0, 7, 65535] 1 1)) (fun w0 h hh => ⟨hh.1, hh.2.rd⟩) (by omega) (aa.EW aa.EN) hc2 _ (aa.E6 aa.EN)) V.Ix  rfl (aq .nil) rfl ?_
 rintro _ _ ⟨qd, nd, cd, rfl, hnd, hcd, rfl⟩
 obtain rfl : nd = 4 := hnd.symm
 refine (Qe)<|(tA) ?_
 intro b3
 refine (Ai)<|(Q8)<|(vg)<|(Qo) ?_
 refine aj (ou none 0 [] (Row U5 none 0 0 []) (fun w0 h hh => ⟨hh.1, hh.2.rd⟩) (by decide) aJ.gK (by decide) _ aa.LG) V.Ix  rfl (aq .nil) rfl ?_
 rintro _ _ ⟨qe, ne, ce, rfl, hne, hce, rfl⟩
 obtain rfl : ne = 0 := hne.symm
 refine (Qe)<|(tA) ?_
 intro b5
 refine (Ai)<|(Q1)<|(QD)<|(rD) ?_
 refine oV (dH V.gn rfl JS (vs := [_, _, _]) rfl rfl)<|(Q0) ?_
 refine oV (dH V.gn rfl ig (vs := [_, _, _]) rfl rfl)<|(Q0) ?_
 refine aj (OI 1 1 (some ⟨bq, 0, none⟩) 4 4 [0, 0, 7, 65535] rfl (Row (aD 62 .u16) (some ⟨bq, 0, none⟩) 4 4 [0, 0, 7, 65535]) (fun w0 h hh => ⟨hh.1, hh.2.rd⟩) 1 1 qd 4 cd [0, 0, 7, 65535] rfl (Row (aD 62 .u16) qd 4 cd [0, 0, 7, 65535]) (fun w0 h hh => ⟨hh.1, hh.2.rd⟩) (by decide) true (decide_eq_true (by unfold aa.jh; exact ⟨⟨by decide, rfl⟩, ⟨by decide, rfl⟩, rfl, rfl, rfl⟩)).symm) V.Vb  rfl (.cons mF (.cons iG .nil)) rfl ?_
 rintro _ _ ⟨rfl, rfl⟩
 refine rO TT 3 rfl ?_
 refine cL rfl ?_
 refine oV (cJ (da rfl rfl) (by omega)) ?_
 refine rO TT 2 rfl ?_
 refine cL rfl ?_
 refine aj (iu 6) V.kn  rfl .nil rfl ?_
 rintro _ _ ⟨rfl, rfl⟩
 refine (Q0)<|(yt)<|(Q3) ?_
 exact ag (aw rfl) ⟨rfl, rfl⟩ (sub .nil Nh)
end Go.Proofs.YtmaiakpjgomnpaaGreat
namespace Go.Proofs.YtmaiakpjgomnpaaGreat
open Go.Sl
theorem V.yq : aB Tryz.prog 13 = true := by kernel_rfl
end Go.Proofs.YtmaiakpjgomnpaaGreat
namespace Go.Proofs.YtmaiakpjgomnpaaGreat
open Go.Sl
end Go.Proofs.YtmaiakpjgomnpaaGreat
namespace Go.aa
open Go.af Go.Sl
def Gc (l : List Ch) (q : List Int × Int) : pH × Int :=
  if q.2 ≠ 0 then (dC, q.2) else if (q.1.length : Int) < want (aL (dq l)) then (dC, 2)
  else match eu (oG l) q.1 (aO (aL (dq l))) 0 (iZ (aL (dq l))) with
    | none => (dC, 4)
    | some pix => (⟨(aL (dq l)).w, (aL (dq l)).h, pix⟩, 0)
def SO (l : List Ch) : Prop := mh (aL (dq l)) (bu l aN) (dX l aN) (bu l aS) (dX l aS)
theorem KU {B : List Int} {l : List Ch} {q : List Int × Int} (hc : cut B = .ok l) (ho : cD l = true) (hh : eF (dq l) = 0) (ht : SO l) (hq : aH.lZ (bW l) (want (aL (dq l))) q) : jV B (Gc l q) := by
  unfold jV
  rw [hc]
  simp only
  rw [if_neg (by rw [ho]; decide), if_neg (fun h => h hh), if_neg (fun h => h ht)]
  refine ⟨q, hq, ?_⟩
  unfold Gc
  split
  · rfl
  · show (if (q.1.length : Int) < want (aL (dq l)) then _ else _)
    split
    · rfl
    · show (match eu (oG l) q.1 (aO (aL (dq l))) 0 (iZ (aL (dq l))) with | none => _ | some pix => _)
      cases eu (oG l) q.1 (aO (aL (dq l))) 0 (iZ (aL (dq l))) <;> rfl
def I5 : List Int := [97, 98, 99, 100]
def VD (k : Nat) (w h : Int) : List Int := [0, 0, w / 256, w % 256, 0, 0, h / 256, h % 256, 16, if k = 6 then 5 else 6, 0, 0, 0]
def Yj (k : Nat) (R : List Int) : List Int := if k = 1 then R.take (R.length - 1) else if k = 2 then R ++ [0] else if k = 3 then R.set 0 5 else R
def MB (k : Nat) : List Ch := if k = 4 then [⟨aS, [0, 0]⟩] else if k = 5 then [⟨aN, [1, 2, 3, 4]⟩] else []
def tL (k : Nat) (w h : Int) (z : List Int) : List Ch := ⟨bQ, VD k w h⟩ :: ⟨I5, []⟩ :: (MB k ++ [⟨ba, z⟩, ⟨aY, []⟩])
def tE (k : Nat) : Int := if k = 0 then 0 else if k = 1 then 2 else if k = 2 then 6 else 4
def tF (k : Nat) (P : List Int) (W H : Nat) : List Int := aU (tL k (W : Int) (H : Int) (cP (Yj k (bY P W H))))
def tR (k : Nat) (P : List Int) (W H : Nat) : pH × Int := if k = 0 then (⟨(W : Int), (H : Int), P⟩, 0) else (dC, tE k)
def tI (k : Nat) (w h : Int) (z : List Int) : List Ch := ⟨bQ, VD k w h⟩ :: ⟨I5, []⟩ :: (MB k ++ [⟨ba, z⟩])
end Go.aa
namespace Go.aa
open Go.af Go.Sl
def Zj (kind : Int) (row above : List Int) (back i : Nat) : Int := (row.getD i 0 - mO kind (gz row i back) (above.getD i 0) (gz above i back)) % 256
def Vy (kind : Int) (row above : List Int) (back n : Nat) : List Int := (List.range n).map (Zj kind row above back)
def Sp (kind : Int) (row above : List Int) (back : Nat) : List Int := Vy kind row above back row.length
def bt (bs : List Int) (n m : Nat) : Int := if m < n then bs.getD m 0 else 0
def jW (bs : List Int) (n j : Nat) : Int := 128 * bt bs n (8 * j) + 64 * bt bs n (8 * j + 1) + 32 * bt bs n (8 * j + 2) + 16 * bt bs n (8 * j + 3) + 8 * bt bs n (8 * j + 4) + 4 * bt bs n (8 * j + 5) + 2 * bt bs n (8 * j + 6) + bt bs n (8 * j + 7)
def gX (bs : List Int) (n : Nat) : List Int := (List.range ((bs.length + 7) / 8)).map (jW bs n)
def jc (bs : List Int) : List Int := gX bs bs.length
def mn (bs : List Int) : Prop := ∀ x ∈ bs, x = 0 ∨ x = 1
theorem mn.get {bs : List Int} (h : mn bs) (i : Nat) : bs.getD i 0 = 0 ∨ bs.getD i 0 = 1 := by
  rcases Nat.lt_or_ge i bs.length with k | k
  · rw [List.getD_eq_getElem?_getD, List.getElem?_eq_getElem k]; exact h _ (List.getElem_mem k)
  · rw [List.getD_eq_getElem?_getD, List.getElem?_eq_none k]; exact .inl rfl
theorem eN {bs : List Int} (h : mn bs) (n m : Nat) : 0 ≤ bt bs n m ∧ bt bs n m ≤ 1 := by
  unfold bt
  split
  · rcases h.get m with h | h <;> rw [h] <;> decide
  · decide
theorem lQ (bs : List Int) (n : Nat) : (gX bs n).length = (bs.length + 7) / 8 := by simp [gX]
theorem A8 (bs : List Int) : (jc bs).length = (bs.length + 7) / 8 := lQ ..
theorem xq {bs : List Int} (h : mn bs) (n j : Nat) : 0 ≤ jW bs n j ∧ jW bs n j < 256 := by
  have h0 := eN h n (8 * j)
  have h1 := eN h n (8 * j + 1)
  have h2 := eN h n (8 * j + 2)
  have h3 := eN h n (8 * j + 3)
  have h4 := eN h n (8 * j + 4)
  have h5 := eN h n (8 * j + 5)
  have h6 := eN h n (8 * j + 6)
  have h7 := eN h n (8 * j + 7)
  unfold jW
  omega
theorem zt {bs : List Int} (h : mn bs) (n : Nat) : ak (gX bs n) := fun x hx => by
  obtain ⟨i, _, rfl⟩ := List.mem_map.1 hx
  exact xq h n i
theorem qH {bs : List Int} {n j : Nat} (hj : j < (bs.length + 7) / 8) : (gX bs n).getD j 0 = jW bs n j := by
  unfold gX
  rw [List.getD_eq_getElem?_getD, List.getElem?_map, List.getElem?_range hj]
  rfl
theorem S2 (bs : List Int) : gX bs 0 = List.replicate ((bs.length + 7) / 8) 0 := by
  refine List.eq_replicate_iff.2 ⟨lQ bs 0, fun x hx => ?_⟩
  obtain ⟨i, _, rfl⟩ := List.mem_map.1 hx
  simp [jW, bt]
theorem Of (k : Nat) (h : k < 8) : k = 0 ∨ k = 1 ∨ k = 2 ∨ k = 3 ∨ k = 4 ∨ k = 5 ∨ k = 6 ∨ k = 7 := by omega
theorem UA {bs : List Int} (n : Nat) : jW bs (n + 1) (n / 8) = jW bs n (n / 8) + bs.getD n 0 * 2 ^ (7 - n % 8) := by
  have hn : n = 8 * (n / 8) + n % 8 := by omega
  have hk := Of (n % 8) (by omega)
  generalize n / 8 = j at hn ⊢
  generalize n % 8 = k at hn hk ⊢
  subst hn
  have e : ∀ i, bt bs (8 * j + k + 1) (8 * j + i) = bt bs (8 * j + k) (8 * j + i) + if i = k then bs.getD (8 * j + k) 0 else 0 := fun i => by
    unfold bt
    by_cases h1 : i < k
    · rw [if_pos (by omega), if_pos (by omega), if_neg (by omega), Int.add_zero]
    · by_cases h2 : i = k
      · rw [if_pos (by omega), if_neg (by omega), if_pos h2, h2, Int.zero_add]
      · rw [if_neg (by omega), if_neg (by omega), if_neg h2]; rfl
  have e0 : bt bs (8 * j + k + 1) (8 * j) = bt bs (8 * j + k) (8 * j) + if 0 = k then bs.getD (8 * j + k) 0 else 0 := e 0
  unfold jW
  rw [e0, e 1, e 2, e 3, e 4, e 5, e 6, e 7]
  generalize bs.getD (8 * j + k) 0 = x
  rcases hk with rfl | rfl | rfl | rfl | rfl | rfl | rfl | rfl <;> simp only [Nat.reduceEqDiff, if_true, if_false, Nat.reduceSub, Int.reducePow, reduceCtorEq] <;> omega
theorem To {bs : List Int} {n j : Nat} (h : j ≠ n / 8) : jW bs (n + 1) j = jW bs n j := by
  have e : ∀ i, i < 8 → bt bs (n + 1) (8 * j + i) = bt bs n (8 * j + i) := fun i hi => by
    unfold bt
    by_cases h1 : 8 * j + i < n
    · rw [if_pos (by omega), if_pos h1]
    · rw [if_neg (by omega), if_neg h1]
  have e0 : bt bs (n + 1) (8 * j) = bt bs n (8 * j) := e 0 (by decide)
  unfold jW
  rw [e0, e 1 (by decide), e 2 (by decide), e 3 (by decide), e 4 (by decide), e 5 (by decide), e 6 (by decide), e 7 (by decide)]
theorem Ui {bs : List Int} {n : Nat} (h : n < bs.length) : gX bs (n + 1) = (gX bs n).set (n / 8) ((gX bs n).getD (n / 8) 0 + bs.getD n 0 * 2 ^ (7 - n % 8)) := by
  refine List.ext_getElem (by rw [List.length_set, lQ, lQ]) (fun i h1 h2 => ?_)
  rw [lQ] at h1
  rw [List.getElem_set]
  have e := qH (bs := bs) (n := n) (j := n / 8) (by omega)
  have e2 := UA (bs := bs) n
  have e3 : ∀ k (hk : i < (gX bs k).length), (gX bs k)[i] = jW bs k i := fun k hk => by simp only [gX, List.getElem_map, List.getElem_range]
  rw [e3, e3, e, ← e2]
  by_cases hi : n / 8 = i
  · rw [if_pos hi, hi]
  · rw [if_neg hi, To (fun h => hi h.symm)]
theorem HQ {bs : List Int} (hb : mn bs) (n : Nat) : jW bs n (n / 8) / 2 ^ (7 - n % 8) % 2 = 0 := by
  have hn : n = 8 * (n / 8) + n % 8 := by omega
  have hk := Of (n % 8) (by omega)
  generalize n / 8 = j at hn ⊢
  generalize n % 8 = k at hn hk ⊢
  subst hn
  have e : ∀ i, k ≤ i → bt bs (8 * j + k) (8 * j + i) = 0 := fun i hi => by
    unfold bt
    rw [if_neg (by omega)]
  have h0 := eN hb (8 * j + k) (8 * j)
  have h1 := eN hb (8 * j + k) (8 * j + 1)
  have h2 := eN hb (8 * j + k) (8 * j + 2)
  have h3 := eN hb (8 * j + k) (8 * j + 3)
  have h4 := eN hb (8 * j + k) (8 * j + 4)
  have h5 := eN hb (8 * j + k) (8 * j + 5)
  have h6 := eN hb (8 * j + k) (8 * j + 6)
  have h7 := eN hb (8 * j + k) (8 * j + 7)
  have e0 : k = 0 → bt bs (8 * j + k) (8 * j) = 0 := fun h => by have := e 0 (by omega); rwa [Nat.add_zero] at this
  have e1 := e 1
  have e2 := e 2
  have e3 := e 3
  have e4 := e 4
  have e5 := e 5
  have e6 := e 6
  have e7 := e 7
  clear e
  unfold jW
  generalize bt bs (8 * j + k) (8 * j) = b0 at *
  generalize bt bs (8 * j + k) (8 * j + 1) = b1 at *
  generalize bt bs (8 * j + k) (8 * j + 2) = b2 at *
  generalize bt bs (8 * j + k) (8 * j + 3) = b3 at *
  generalize bt bs (8 * j + k) (8 * j + 4) = b4 at *
  generalize bt bs (8 * j + k) (8 * j + 5) = b5 at *
  generalize bt bs (8 * j + k) (8 * j + 6) = b6 at *
  generalize bt bs (8 * j + k) (8 * j + 7) = b7 at *
  rcases hk with rfl | rfl | rfl | rfl | rfl | rfl | rfl | rfl <;> simp only [Nat.reduceSub, Int.reducePow, Nat.reduceLeDiff, forall_const] at * <;> omega
theorem MR {bs : List Int} (hb : mn bs) {i : Nat} (h : i < bs.length) : fJ (jc bs) i = bs.getD i 0 := by
  unfold fJ jc
  rw [qH (by omega)]
  have hn : i = 8 * (i / 8) + i % 8 := by omega
  have hk := Of (i % 8) (by omega)
  have h0 := eN hb bs.length (8 * (i / 8))
  have h1 := eN hb bs.length (8 * (i / 8) + 1)
  have h2 := eN hb bs.length (8 * (i / 8) + 2)
  have h3 := eN hb bs.length (8 * (i / 8) + 3)
  have h4 := eN hb bs.length (8 * (i / 8) + 4)
  have h5 := eN hb bs.length (8 * (i / 8) + 5)
  have h6 := eN hb bs.length (8 * (i / 8) + 6)
  have h7 := eN hb bs.length (8 * (i / 8) + 7)
  have e : bt bs bs.length (8 * (i / 8) + i % 8) = bs.getD i 0 := by rw [← hn]; unfold bt; rw [if_pos h]
  unfold jW
  rw [← e]
  clear e hb h
  generalize i / 8 = j at *
  generalize i % 8 = k at *
  rcases hk with rfl | rfl | rfl | rfl | rfl | rfl | rfl | rfl <;> simp only [Nat.reduceSub, Int.reducePow, Nat.add_zero] at * <;> omega
def gQ (x : Int) (d : Nat) : List Int := (List.range d).map fun i => x / 2 ^ (d - 1 - i) % 2
def dN (l : List Int) (d : Nat) : List Int := l.flatMap fun x => gQ x d
theorem mK (x : Int) (d : Nat) : (gQ x d).length = d := by simp [gQ]
theorem Fa (x : Int) (d : Nat) : mn (gQ x d) := fun y hy => by
  obtain ⟨i, _, rfl⟩ := List.mem_map.1 hy
  generalize x / 2 ^ (d - 1 - i) = z
  omega
theorem DJ {x : Int} {d i : Nat} (h : i < d) : (gQ x d).getD i 0 = x / 2 ^ (d - 1 - i) % 2 := by
  unfold gQ
  rw [List.getD_eq_getElem?_getD, List.getElem?_map, List.getElem?_range h]
  rfl
theorem TP (l : List Int) (x : Int) (d : Nat) : dN (l ++ [x]) d = dN l d ++ gQ x d := by simp [dN]
theorem rh : ∀ (l : List Int) (d : Nat), (dN l d).length = l.length * d
  | [], d => by simp [dN]
  | x :: l, d => by
    have e : dN (x :: l) d = gQ x d ++ dN l d := rfl
    rw [e, List.length_append, rh l d, mK, List.length_cons, Nat.succ_mul, Nat.add_comm]
theorem qD (l : List Int) (d : Nat) : mn (dN l d) := fun y hy => by
  obtain ⟨x, _, h⟩ := List.mem_flatMap.1 hy
  exact Fa x d y h
theorem zL : ∀ (l : List Int) {d j i : Nat}, j < l.length → i < d → (dN l d).getD (j * d + i) 0 = l.getD j 0 / 2 ^ (d - 1 - i) % 2
  | [], d, j, i, h, _ => by simp at h
  | x :: l, d, 0, i, _, hi => by
    have e : dN (x :: l) d = gQ x d ++ dN l d := rfl
    rw [e, Nat.zero_mul, Nat.zero_add, List.getD_eq_getElem?_getD, List.getElem?_append_left (by rw [mK]; exact hi), ← List.getD_eq_getElem?_getD, DJ hi]
    rfl
  | x :: l, d, j + 1, i, h, hi => by
    have e : dN (x :: l) d = gQ x d ++ dN l d := rfl
    have e2 : (j + 1) * d + i = d + (j * d + i) := by rw [Nat.succ_mul]; omega
    rw [e, e2, List.getD_eq_getElem?_getD, List.getElem?_append_right (by rw [mK]; omega), mK, Nat.add_sub_cancel_left, ← List.getD_eq_getElem?_getD, zL l (by simpa using h) hi]
    rfl
theorem L8 (y : Int) (n : Nat) : 2 * (y / 2 % 2 ^ n) + y % 2 = y % (2 ^ n * 2) := by
  have hp : (0 : Int) < 2 ^ n := Int.pow_pos (by decide)
  have h1 := Int.mul_ediv_add_emod y 2
  have h2 := Int.mul_ediv_add_emod (y / 2) (2 ^ n)
  have h3 := Int.emod_nonneg (y / 2) (Int.ne_of_gt hp)
  have h4 := Int.emod_lt_of_pos (y / 2) hp
  generalize y / 2 % 2 ^ n = a at *
  generalize y / 2 / 2 ^ n = b at *
  have e : y = 2 * a + y % 2 + (2 ^ n * 2) * b := by
    have : (2 ^ n * 2) * b = 2 * (2 ^ n * b) := by rw [Int.mul_comm (2 ^ n) 2, Int.mul_assoc]
    omega
  have h5 : 2 * a + y % 2 < 2 ^ n * 2 := by omega
  conv => rhs; rw [e]
  rw [Int.add_mul_emod_self_left, Int.emod_eq_of_lt (by omega) h5]
theorem zV {l : List Int} {d j : Nat} (h : j < l.length) : ∀ n, n ≤ d → bM (jc (dN l d)) (j * d) n = l.getD j 0 / 2 ^ (d - n) % 2 ^ n
  | 0, _ => by simp [bM, Int.emod_one]
  | n + 1, hn => by
    have hlen : j * d + n < (dN l d).length := by
      rw [rh]
      calc j * d + n < j * d + d := by omega
        _ = (j + 1) * d := (Nat.succ_mul _ _).symm
        _ ≤ l.length * d := Nat.mul_le_mul_right _ h
    rw [bM, zV h n (by omega), MR (qD l d) hlen, zL l h (by omega)]
    have e1 : d - 1 - n = d - (n + 1) := by omega
    have e2 : (2 : Int) ^ (d - n) = 2 ^ (d - (n + 1)) * 2 := by rw [← Int.pow_succ, show (d - (n + 1)).succ = d - n by omega]
    rw [e1, e2, ← Int.ediv_ediv_of_nonneg (Int.le_of_lt (Int.pow_pos (by decide))), Int.pow_succ]
    generalize l.getD j 0 / 2 ^ (d - (n + 1)) = y
    exact L8 y n
end Go.aa
namespace Go.aa
open Go.af Go.Sl
def gr (h : List Int) (mid : List Ch) (z : List Int) : List Ch := ⟨bQ, h⟩ :: (mid ++ [⟨ba, z⟩, ⟨aY, []⟩])
def ML (h : List Int) (mid : List Ch) (z : List Int) : List Ch := ⟨bQ, h⟩ :: (mid ++ [⟨ba, z⟩])
structure kS (h : List Int) (mid : List Ch) (z : List Int) : Prop where
 hh : ak h ∧ h.length = 13
 hm : ∀ c ∈ mid, js c ∧ c.k ≠ aY
 hz : ak z ∧ z.length ≤ 200000
 hl : (gw mid).length ≤ 50000
theorem Ii (h : List Int) (mid : List Ch) (z : List Int) : gr h mid z = ML h mid z ++ [⟨aY, []⟩] := by simp [gr, ML]
theorem kS.US {h : List Int} {mid : List Ch} {z : List Int} (o : kS h mid z) : ∀ c ∈ ML h mid z, js c ∧ c.k ≠ aY := fun c hc => by
 have h1 := o.hh.2
 have h2 := o.hz.2
 rcases List.mem_cons.1 hc with rfl | hc
 ·exact ⟨⟨Bx, o.hh.1, by show h.length ≤ _; omega⟩, RJ⟩
 ·rcases List.mem_append.1 hc with hc | hc
  ·exact o.hm c hc
  ·rw [List.mem_singleton.1 hc]
   exact ⟨⟨Cj, o.hz.1, by show z.length ≤ _; omega⟩, R3⟩
theorem kS.ok {h : List Int} {mid : List Ch} {z : List Int} (o : kS h mid z) : ∀ c ∈ gr h mid z, js c := fun c hc => by
 rw [Ii] at hc
 rcases List.mem_append.1 hc with h | h
 ·exact (o.US c h).1
 ·rw [List.mem_singleton.1 h]; exact nL
theorem kS.oH {h : List Int} {mid : List Ch} {z : List Int} (o : kS h mid z) : ak (aU (gr h mid z)) := vJ o.ok
theorem kS.size {h : List Int} {mid : List Ch} {z : List Int} (o : kS h mid z) : (aU (gr h mid z)).length ≤ 250100 := by
 have e : aU (gr h mid z) = ee ++ (eA ⟨bQ, h⟩ ++ (gw mid ++ (eA ⟨ba, z⟩ ++ eA ⟨aY, []⟩))) := by simp [aU, gw, gr]
 have e1 : (eA ⟨bQ, h⟩).length = 12 + h.length := gN (c := ⟨bQ, h⟩) rfl
 have e3 : (eA ⟨ba, z⟩).length = 12 + z.length := gN (c := ⟨ba, _⟩) rfl
 have e4 : (eA ⟨aY, []⟩).length = 12 := gN (c := ⟨aY, []⟩) rfl
 have e5 : ee.length = 8 := rfl
 have h1 := o.hh.2
 have h2 := o.hz.2
 have h3 := o.hl
 rw [e]
 simp only [List.length_append, e1, e3, e4, e5]
 omega
theorem kS.cut {h : List Int} {mid : List Ch} {z : List Int} (o : kS h mid z) : cut (aU (gr h mid z)) = .ok (gr h mid z) := by
 have hl := o.size
 rw [Ii] at hl ⊢
 exact yh nL rfl o.US (by omega)
theorem zC {P row : List Int} {W H y : Nat} {f : Fl} {p : Ps} (hp : p.x = 0 ∧ p.y = 0 ∧ p.dx = 1 ∧ p.dy = 1) (hw : f.hd.w = (W : Int)) (hP : P.length = 4 * W * H) (hy : y < H) (hc : ∀ x, x < W → fy f (dJ f.hd row x) = some [P.getD (4 * (W * y + x)) 0, P.getD (4 * (W * y + x) + 1) 0, P.getD (4 * (W * y + x) + 2) 0, P.getD (4 * (W * y + x) + 3) 0]) : ∀ k i, i + k = W → dS f p (y : Int) row k i (laid P (W * y + i)) = some (laid P (W * y + W))
 | 0, i, hi => by rw [dS, show i = W by omega]
 | k + 1, i, hi => by
  have hle : 4 * W * (y + 1) ≤ 4 * W * H := Nat.mul_le_mul_left _ hy
  rw [Nat.mul_succ, Nat.mul_assoc] at hle
  rw [dS, hc i (by omega)]
  simp only [hp.1, hp.2.1, hp.2.2.1, hp.2.2.2, hw]
  rw [xa (by omega)]
  exact zC hp hw hP hy hc k (i + 1) (by omega)
theorem Au {row : List Int} {W x : Nat} {f : Fl} {p : Ps} {y : Int} (hx : x < W) (h : fy f (dJ f.hd row x) = none) : ∀ k i pix, i + k = W → i ≤ x → dS f p y row k i pix = none
 | 0, i, pix, hi, hk => by omega
 | k + 1, i, pix, hi, hk => by
  rw [dS]
  by_cases e : i = x
  ·rw [e, h]
  ·split
   ·rfl
   ·exact Au hx h k (i + 1) _ (by omega) (by omega)
theorem KS {f : Fl} {kind n : Int} {row D : List Int} {N : Nat} (pix : List Int) (hn : f.hd.w = n) (hk : kind ≤ 4) (hN : (dv n (bitsOf f.hd)).toNat = N) (hD : D = kind :: row) (hl : row.length = N) : eu f D (whole n 1) 0 pix = dS f ⟨0, 0, 1, 1, n, 1⟩ 0 (eJ kind row [] (max 1 (bitsOf f.hd / 8)).toNat) n.toNat 0 pix := by
 unfold whole eu
 have e : ∀ back, eg f D (dv n (bitsOf f.hd)).toNat back ⟨0, 0, 1, 1, n, 1⟩ (1 : Int).toNat 0 0 [] pix = (dS f ⟨0, 0, 1, 1, n, 1⟩ 0 (eJ kind row [] back) n.toNat 0 pix).map (fun q => (0 + 1 + N, q)) := fun back => by
  rw [show (1 : Int).toNat = 0 + 1 from rfl, eg, hD]
  rw [if_neg (by show ¬ 4 < kind; omega), hN]
  have e1 : ((kind :: row).drop (0 + 1)).take N = row := by rw [Nat.zero_add, List.drop_succ_cons, List.drop_zero, ← hl, List.take_length]
  rw [e1, show (kind :: row).getD 0 0 = kind from rfl]
  show (match dS f ⟨0, 0, 1, 1, n, 1⟩ ((0 : Nat) : Int) _ _ _ _ with | none => none | some pix2 => _) = _
  cases dS f ⟨0, 0, 1, 1, n, 1⟩ ((0 : Nat) : Int) (eJ kind row [] back) n.toNat 0 pix <;> rfl
 simp only [e]
 cases dS f ⟨0, 0, 1, 1, n, 1⟩ 0 (eJ kind row [] (max 1 (bitsOf f.hd / 8)).toNat) n.toNat 0 pix <;> rfl
theorem yU {α : Type} (f : α → List Int) (hf : ∀ x, (f x).length = 4) : ∀ l : List α, (l.flatMap f).length = 4 * l.length
 | [] => rfl
 | x :: l => by rw [List.flatMap_cons, List.length_append, hf, yU f hf l, List.length_cons]; omega
theorem yS (f : Int → List Int) (hf : ∀ x, (f x).length = 4) : ∀ (l : List Int) {i j : Nat}, i < l.length → j < 4 → (l.flatMap f).getD (4 * i + j) 0 = (f (l.getD i 0)).getD j 0
 | [], i, j, h, _ => by simp at h
 | x :: l, 0, j, _, hj => by
  rw [List.flatMap_cons, Nat.mul_zero, Nat.zero_add, List.getD_eq_getElem?_getD, List.getElem?_append_left (by rw [hf]; exact hj), ← List.getD_eq_getElem?_getD]
  rfl
 | x :: l, i + 1, j, h, hj => by
  rw [List.flatMap_cons, List.getD_eq_getElem?_getD, List.getElem?_append_right (by rw [hf]; omega), hf, ← List.getD_eq_getElem?_getD, show 4 * (i + 1) + j - 4 = 4 * i + j by omega, yS f hf l (by simpa using h) hj]
  rfl
def iq (d : Nat) : Prop := d = 1 ∨ d = 2 ∨ d = 4 ∨ d = 8
def eR (n d c : Int) : List Int := [0, 0, n / 256, n % 256, 0, 0, 0, 1, d, c, 0, 0, 0]
def XC (d : Nat) (key x : Int) : List Int := [x % 2 ^ d * (65535 / (2 ^ d - 1)), x % 2 ^ d * (65535 / (2 ^ d - 1)), x % 2 ^ d * (65535 / (2 ^ d - 1)), if x % 2 ^ d = key then 0 else 65535]
def gP (v : List Int) (d : Nat) (key : Int) : List Int := v.flatMap (XC d key)
def RG (v : List Int) (d : Nat) (kind : Int) : List Int := kind :: Sp kind (jc (dN v d)) [] 1
def Yb (a b : Int) : List Ch := [⟨aS, [a, b]⟩]
def gF (v : List Int) (d : Nat) (kind a b : Int) : List Int := aU (gr (eR v.length d 0) (Yb a b) (cP (RG v d kind)))
structure GOk (v : List Int) (d : Nat) (kind key a b : Int) : Prop where
 hn : 1 ≤ v.length ∧ v.length ≤ 256
 hd : iq d
 hk : 0 ≤ kind ∧ kind ≤ 4
 ha : 0 ≤ a ∧ a < 256
 hb : 0 ≤ b ∧ b < 256
 ZT : (a * 256 + b) % 2 ^ d = key
theorem Lu {n d c : Int} (hn : 1 ≤ n ∧ n ≤ 256) (hd : 0 ≤ d ∧ d < 256) (hc : 0 ≤ c ∧ c < 256) : ak (eR n d c) := fun x hx => by
 simp only [eR, List.mem_cons, List.not_mem_nil, or_false] at hx
 rcases hx with rfl | rfl | rfl | rfl | rfl | rfl | rfl | rfl | rfl | rfl | rfl | rfl | rfl <;> omega
theorem Dr {n d c : Int} (hn : 1 ≤ n ∧ n ≤ 256) : aL (eR n d c) = ⟨n, 1, d, c, false⟩ := by
 unfold aL eR
 simp only [aH.cV, List.drop_succ_cons, List.drop_zero, List.getD_cons_zero, List.getD_cons_succ]
 congr 1 <;> first | omega | rfl
theorem Tx {n d c : Int} (hn : 1 ≤ n ∧ n ≤ 256) (hd : deep c d) : eF (eR n d c) = 0 := by
 unfold eF
 rw [Dr hn]
 have e4 : (eR n d c).getD 10 0 = 0 := rfl
 have e5 : (eR n d c).getD 11 0 = 0 := rfl
 have e6 : (eR n d c).getD 12 0 = 0 := rfl
 have hs : aW n 1 = 0 := by
  unfold aW
  rw [if_neg (by omega), if_neg (by omega)]
 rw [if_neg (by simp [eR]), e4, e5, e6, if_neg (by rintro (h | h | h | h | h); exact h hd; omega; omega; (have : n = 0 := h); omega; exact absurd (show (1 : Int) = 0 from h) (by decide))]
 show (if aW n 1 = 0 then (0 : Int) else 6) = 0
 rw [if_pos hs]
theorem iq.of {d : Nat} (h : iq d) : 1 ≤ d ∧ d ≤ 8 := by unfold iq at h; omega
theorem qT {v : List Int} {d : Nat} : (jc (dN v d)).length = (v.length * d + 7) / 8 := by rw [A8, rh]
theorem xP {n d : Nat} (hn : n ≤ 256) (hd : iq d) : (n * d + 7) / 8 ≤ 256 := by
 unfold iq at hd
 rcases hd with rfl | rfl | rfl | rfl <;> omega
theorem N9 {n : Nat} {d c : Int} (hp : parts c = 1) (hn : 1 ≤ n) : want ⟨(n : Int), 1, d, c, false⟩ = 1 + ((n : Int) * d + 7) / 8 := by
 have e : want ⟨(n : Int), 1, d, c, false⟩ = ([if 0 < (n : Int) then (1 : Int) * (1 + dv (n : Int) (parts c * d)) else 0] : List Int).sum := rfl
 rw [e, hp, Int.one_mul, if_pos (by omega)]
 simp [dv]
theorem NO {v : List Int} {d : Nat} {c n : Int} {x : Nat} (hp : parts c = 1) (hx : x < v.length) : dJ ⟨n, 1, (d : Int), c, false⟩ (jc (dN v d)) x = [v.getD x 0 % 2 ^ d] := by
 have e : dJ ⟨n, 1, (d : Int), c, false⟩ (jc (dN v d)) x = (List.range (parts c).toNat).map fun i => bM (jc (dN v d)) (x * (parts c).toNat * d + i * d) d := rfl
 rw [e, hp]
 show [bM (jc (dN v d)) (x * 1 * d + 0 * d) d] = _
 rw [Nat.mul_one, Nat.zero_mul, Nat.add_zero, zV hx d (Nat.le_refl _), Nat.sub_self, Int.pow_zero, Int.ediv_one]
end Go.aa
namespace Go.aa
open Go.af Go.Sl
def gk (T : List (List Int)) : List Int := T.flatMap id
def FI (T : List (List Int)) : Prop := ∀ t ∈ T, t.length = 3 ∧ ak t
theorem rj : ∀ {T : List (List Int)}, FI T → (gk T).length = 3 * T.length
  | [], _ => rfl
  | t :: T, h => by
    have e : gk (t :: T) = t ++ gk T := rfl
    rw [e, List.length_append, (h t (List.mem_cons_self ..)).1, rj (fun x hx => h x (List.mem_cons_of_mem _ hx)), List.length_cons]; omega
theorem Mf {T : List (List Int)} (h : FI T) : ak (gk T) := fun x hx => by
  obtain ⟨t, ht, hx⟩ := List.mem_flatMap.1 hx
  exact (h t ht).2 x hx
theorem qW : ∀ {T : List (List Int)} {k j : Nat}, FI T → k < T.length → j < 3 → (gk T).getD (3 * k + j) 0 = (T.getD k []).getD j 0
  | [], k, j, _, h, _ => by simp at h
  | t :: T, 0, j, h, _, hj => by
    have e : gk (t :: T) = t ++ gk T := rfl
    rw [e, Nat.mul_zero, Nat.zero_add, List.getD_eq_getElem?_getD, List.getElem?_append_left (by rw [(h t (List.mem_cons_self ..)).1]; exact hj), ← List.getD_eq_getElem?_getD]
    rfl
  | t :: T, k + 1, j, h, hk, hj => by
    have e : gk (t :: T) = t ++ gk T := rfl
    have h3 := (h t (List.mem_cons_self ..)).1
    rw [e, List.getD_eq_getElem?_getD, List.getElem?_append_right (by rw [h3]; omega), h3, ← List.getD_eq_getElem?_getD, show 3 * (k + 1) + j - 3 = 3 * k + j by omega, qW (fun x hx => h x (List.mem_cons_of_mem _ hx)) (by simpa using hk) hj]
    rfl
theorem TO (T : List (List Int)) (t : List Int) : gk (T ++ [t]) = gk T ++ t := by simp [gk]
def m7 (T : List (List Int)) (al : List Int) (k : Int) : List Int := [(T.getD k.toNat []).getD 0 0 * 257, (T.getD k.toNat []).getD 1 0 * 257, (T.getD k.toNat []).getD 2 0 * 257, if k.toNat < al.length then al.getD k.toNat 0 * 257 else 65535]
def pP (v : List Int) (T : List (List Int)) (al : List Int) : List Int := v.flatMap (m7 T al)
def cH (v : List Int) (d : Nat) : List Int := 0 :: jc (dN v d)
def mb (T : List (List Int)) (al : List Int) : List Ch := [⟨aN, gk T⟩, ⟨aS, al⟩]
def pF (v : List Int) (T : List (List Int)) (al : List Int) (d : Nat) : List Int := aU (gr (eR v.length d 3) (mb T al) (cP (cH v d)))
structure FD (v : List Int) (T : List (List Int)) (al : List Int) (d : Nat) : Prop where
  hn : 1 ≤ v.length ∧ v.length ≤ 200
  hd : iq d
  hT : 1 ≤ T.length ∧ T.length ≤ 256 ∧ T.length ≤ 2 ^ d
  h3 : FI T
  ha : ak al ∧ al.length ≤ T.length
  hv : ∀ x ∈ v, 0 ≤ x ∧ x < 2 ^ d
theorem ub (v : List Int) (T : List (List Int)) (al : List Int) : (pP v T al).length = 4 * v.length := yU _ (fun _ => rfl) v
theorem pC {v : List Int} {T : List (List Int)} {al : List Int} {i j : Nat} (hi : i < v.length) (hj : j < 4) : (pP v T al).getD (4 * i + j) 0 = (m7 T al (v.getD i 0)).getD j 0 := yS _ (fun _ => rfl) v hi hj
theorem sf {v : List Int} {d : Nat} : (cH v d).length = 1 + (v.length * d + 7) / 8 := by
  unfold cH
  rw [List.length_cons, qT]; omega
theorem sb {v : List Int} {d : Nat} : ak (cH v d) := aH.jZ (by decide) (zt (qD v d) _)
theorem FD.fl {v : List Int} {T : List (List Int)} {al : List Int} {d : Nat} (o : FD v T al d) : kS (eR v.length d 3) (mb T al) (cP (cH v d)) := by
  have h1 := o.hn
  have h2 := o.hd.of
  have h3 := xP (n := v.length) (by omega) o.hd
  have h4 : (cH v d).length = _ := sf
  have h5 := nj (B := cH v d) (by omega)
  have h6 := rj o.h3
  have h7 := o.hT
  have h8 := o.ha.2
  refine ⟨⟨Lu (by omega) (by omega) (by decide), rfl⟩, ?_, ⟨Dx sb (by omega), by omega⟩, ?_⟩
  · intro c hc
    rcases List.mem_cons.1 hc with rfl | hc
    · exact ⟨⟨TC, Mf o.h3, by show (gk T).length ≤ _; omega⟩, XK⟩
    · rw [List.mem_singleton.1 hc]
      exact ⟨⟨TH, o.ha.1, by show al.length ≤ _; omega⟩, XL⟩
  · have e : gw (mb T al) = eA ⟨aN, gk T⟩ ++ (eA ⟨aS, al⟩ ++ []) := rfl
    have e1 : (eA ⟨aN, gk T⟩).length = 12 + (gk T).length := gN (c := ⟨aN, gk T⟩) rfl
    have e2 : (eA ⟨aS, al⟩).length = 12 + al.length := gN (c := ⟨aS, al⟩) rfl
    rw [e, List.append_nil, List.length_append, e1, e2]
    omega
theorem Is {v : List Int} {T : List (List Int)} {al : List Int} {d : Nat} {n : Int} (o : FD v T al d) {k : Int} (h0 : 0 ≤ k) : fy ⟨⟨n, 1, (d : Int), 3, false⟩, gk T, al⟩ [k] = if k < T.length then some [(m7 T al k).getD 0 0, (m7 T al k).getD 1 0, (m7 T al k).getD 2 0, (m7 T al k).getD 3 0] else none := by
  have hl := rj o.h3
  have e3 : ([k] : List Int).getD 0 0 = k := rfl
  unfold fy
  rw [if_pos rfl, e3]
  by_cases h : k < T.length
  · have g0 : (gk T).getD (3 * k.toNat) 0 = (T.getD k.toNat []).getD 0 0 := qW (j := 0) o.h3 (by omega) (by decide)
    rw [if_neg (by show ¬ (gk T).length / 3 ≤ _; rw [hl]; omega), if_pos h]
    simp only
    rw [g0, qW o.h3 (by omega) (by decide), qW o.h3 (by omega) (by decide)]
    rfl
  · rw [if_pos (by show (gk T).length / 3 ≤ _; rw [hl]; omega), if_neg h]
theorem vd {v : List Int} {T : List (List Int)} {al : List Int} {d : Nat} (o : FD v T al d) : jV (pF v T al d) (if ∀ x ∈ v, x < T.length then (⟨(v.length : Int), 1, pP v T al⟩, 0) else (dC, 4)) := by
  have hn := o.hn
  have hd := o.hd.of
  have h3 := xP (n := v.length) (by omega) o.hd
  have hf := o.fl
  have hcut := hf.cut
  have hraw : (cH v d).length = _ := sf
  have hh : dq (gr (eR v.length d 3) (mb T al) (cP (cH v d))) = eR v.length d 3 := rfl
  have ho : aL (eR v.length d 3) = ⟨(v.length : Int), 1, (d : Int), 3, false⟩ := Dr (by omega)
  have hdp : deep 3 (d : Int) := by
    have := o.hd
    unfold iq at this
    unfold deep
    omega
  have hidat : bW (gr (eR v.length d 3) (mb T al) (cP (cH v d))) = cP (cH v d) := by
    have e : bW (gr (eR v.length d 3) (mb T al) (cP (cH v d))) = cP (cH v d) ++ [] := rfl
    rw [e, List.append_nil]
  have hw := N9 (n := v.length) (d := (d : Int)) (c := 3) rfl hn.1
  have hopn : aH.lZ (cP (cH v d)) (want ⟨(v.length : Int), 1, (d : Int), 3, false⟩) (cH v d, 0) := Dq sb (by omega) (by
    rw [hw, hraw]
    push_cast
    omega)
  have hl := rj o.h3
  have hT := o.hT
  have := KU (q := (cH v d, 0)) hcut rfl (by rw [hh]; exact Tx (by omega) hdp) (by
    unfold SO
    rw [hh, ho]
    have e1 : dX (gr (eR v.length d 3) (mb T al) (cP (cH v d))) aN = true := rfl
    have e2 : dX (gr (eR v.length d 3) (mb T al) (cP (cH v d))) aS = true := rfl
    have e3 : bu (gr (eR v.length d 3) (mb T al) (cP (cH v d))) aS = al := rfl
    have e4 : bu (gr (eR v.length d 3) (mb T al) (cP (cH v d))) aN = gk T := rfl
    have e5 : ((2 ^ d : Nat) : Int) = 2 ^ d := by push_cast; rfl
    have ha := o.ha.2
    rw [e1, e2, e3, e4]
    unfold mh
    rw [if_pos rfl, hl]
    refine ⟨⟨by show ¬ ((3 : Int) = 0 ∨ (3 : Int) = 4); decide, fun _ => ?_, by omega, by omega, by omega⟩, fun _ => .inl ⟨rfl, by omega⟩⟩
    show ((3 * T.length : Nat) : Int) / 3 ≤ 2 ^ d
    rw [← e5]
    omega) (by rw [hh, ho, hidat]; exact hopn)
  unfold Gc at this
  rw [if_neg (fun h => h rfl), hh, ho, if_neg (by show ¬ (((cH v d).length : Int) < _); rw [hw, hraw]; push_cast; omega)] at this
  have hfl : oG (gr (eR v.length d 3) (mb T al) (cP (cH v d))) = ⟨⟨(v.length : Int), 1, (d : Int), 3, false⟩, gk T, al⟩ := by
    unfold oG
    rw [hh, ho]
    rfl
  have hbits : bitsOf ⟨(v.length : Int), 1, (d : Int), 3, false⟩ = (d : Int) := by show 1 * (d : Int) = _; rw [Int.one_mul]
  have hlen : (pP v T al).length = 4 * v.length * 1 := by rw [ub]; omega
  have hpix0 : iZ ⟨(v.length : Int), 1, (d : Int), 3, false⟩ = laid (pP v T al) (v.length * 0 + 0) := by
    unfold iZ laid
    simp only [Nat.mul_zero, Nat.add_zero, List.take_zero, List.nil_append, Nat.sub_zero, ub]
    congr 1
    omega
  have hsamp : ∀ x, x < v.length → dJ ⟨(v.length : Int), 1, (d : Int), 3, false⟩ (jc (dN v d)) x = [v.getD x 0] ∧ v.getD x 0 ∈ v := fun x hx => by
    have hm : v.getD x 0 ∈ v := by
      rw [List.getD_eq_getElem?_getD, List.getElem?_eq_getElem hx]
      exact List.getElem_mem hx
    have := o.hv _ hm
    rw [NO (by decide) hx, Int.emod_eq_of_lt this.1 this.2]
    exact ⟨rfl, hm⟩
  have hdr : eu ⟨⟨(v.length : Int), 1, (d : Int), 3, false⟩, gk T, al⟩ (cH v d) (whole (v.length : Int) 1) 0 (iZ ⟨(v.length : Int), 1, (d : Int), 3, false⟩) = if ∀ x ∈ v, x < T.length then some (pP v T al) else none := by
    refine (KS (f := ⟨⟨(v.length : Int), 1, (d : Int), 3, false⟩, gk T, al⟩) (kind := 0) (n := (v.length : Int)) (N := (v.length * d + 7) / 8) (row := jc (dN v d)) _ rfl (by decide) (by
      show (dv (v.length : Int) (bitsOf ⟨(v.length : Int), 1, (d : Int), 3, false⟩)).toNat = _
      rw [hbits]
      unfold dv
      have : ((v.length : Int) * (d : Int) + 7) / 8 = (((v.length * d + 7) / 8 : Nat) : Int) := by push_cast; rfl
      rw [this]; rfl) rfl qT).trans ?_
    rw [Jx (row := jc (dN v d)) (zt (qD v d) _), hpix0]
    by_cases hall : ∀ x ∈ v, x < T.length
    · rw [if_pos hall]
      have hr := zC (P := pP v T al) (row := jc (dN v d)) (W := v.length) (H := 1) (y := 0) (f := ⟨⟨(v.length : Int), 1, (d : Int), 3, false⟩, gk T, al⟩) (p := ⟨0, 0, 1, 1, (v.length : Int), 1⟩) ⟨rfl, rfl, rfl, rfl⟩ rfl hlen (by decide) (fun x hx => by
        show fy _ (dJ ⟨(v.length : Int), 1, (d : Int), 3, false⟩ _ _) = _
        have hs := hsamp x hx
        rw [hs.1, Nat.mul_zero, Nat.zero_add, Is o (o.hv _ hs.2).1, if_pos (hall _ hs.2)]
        have g0 : (pP v T al).getD (4 * x) 0 = (m7 T al (v.getD x 0)).getD 0 0 := pC (j := 0) hx (by decide)
        rw [g0, pC hx (by decide), pC hx (by decide), pC hx (by decide)]) v.length 0 (by omega)
      show dS _ _ ((0 : Nat) : Int) _ v.length 0 _ = _
      rw [hr]
      unfold laid
      rw [Nat.mul_zero, Nat.zero_add, ← ub v T al, List.take_length, Nat.sub_self]
      simp
    · rw [if_neg hall]
      have : ∃ i, ∃ (h : i < v.length), ¬ v[i] < T.length := by
        refine Classical.byContradiction fun hn => hall fun x hx => ?_
        obtain ⟨i, hi, rfl⟩ := List.mem_iff_getElem.1 hx
        exact Classical.byContradiction fun h => hn ⟨i, hi, h⟩
      obtain ⟨i, hi, hx⟩ := this
      have hg : v.getD i 0 = v[i] := by rw [List.getD_eq_getElem?_getD, List.getElem?_eq_getElem hi]; rfl
      refine Au (x := i) (W := v.length) hi ?_ v.length 0 _ (by omega) (by omega)
      show fy _ (dJ ⟨(v.length : Int), 1, (d : Int), 3, false⟩ _ _) = _
      have hs := hsamp i hi
      rw [hs.1, Is o (o.hv _ hs.2).1, hg, if_neg hx]
  rw [hfl] at this
  have hpa : aO ⟨(v.length : Int), 1, (d : Int), 3, false⟩ = whole (v.length : Int) 1 := rfl
  rw [hpa, hdr] at this
  show jV (aU _) _
  by_cases hall : ∀ x ∈ v, x < T.length
  · rw [if_pos hall] at this ⊢
    exact this
  · rw [if_neg hall] at this ⊢
    exact this
end Go.aa
namespace Go.aa
open Go.af Go.Sl
def V0 (W : Nat) (p : Ps) (y x : Nat) : Nat := ((p.y + y * p.dy) * W + (p.x + x * p.dx)).toNat
def Vz (P : List Int) (q : Nat) : List Int := [P.getD (4 * q) 0, P.getD (4 * q + 1) 0, P.getD (4 * q + 2) 0, P.getD (4 * q + 3) 0]
def XT (P : List Int) (W : Nat) (p : Ps) (y n : Nat) : List Int := (List.range n).flatMap fun x => Vz P (V0 W p y x)
def JP (P : List Int) (W : Nat) (p : Ps) (y n : Nat) : List Int := two (XT P W p y n)
def OH (P : List Int) (W : Nat) (p : Ps) (y : Nat) : List Int := JP P W p y p.w.toNat
def Wc (n : Int) (y : Nat) : Int := (n + y) % 5
def Yp (P : List Int) (W : Nat) (p : Ps) : Nat → List Int
 | 0 => []
 | y + 1 => OH P W p y
def Mp (P : List Int) (W : Nat) (n : Int) (p : Ps) : Nat → List Int
 | 0 => []
 | y + 1 => Mp P W n p y ++ (Wc n y :: Sp (Wc n y) (OH P W p y) (Yp P W p y) 8)
def Yi (P : List Int) (W : Nat) (n : Int) (l : List Ps) : List Int := l.flatMap fun p => Mp P W n p p.h.toNat
def gd (P pix : List Int) (m : Nat) : Prop := pix.getD m 0 = P.getD m 0
def ZK (w h : Int) : Hd := ⟨w, h, 16, 6, true⟩
def XI (P : List Int) (W H : Nat) (n : Int) : List Int := Yi P W n (eS (W : Int) (H : Int))
def lB (w h : Int) : List Int := [0, 0, w / 256, w % 256, 0, 0, h / 256, h % 256, 16, 6, 0, 0, 1]
def lF (P : List Int) (W H : Nat) (n : Int) : List Int := aU (gr (lB (W : Int) (H : Int)) [] (cP (XI P W H n)))
end Go.aa
namespace Go.aa
open Go.af Go.Sl
def kq (x : Int) (d i : Nat) : List Int := (List.range i).map fun j => x / 2 ^ (d - 1 - j) % 2
theorem Tr (x : Int) (d : Nat) : kq x d d = gQ x d := rfl
theorem TS (x : Int) (d i : Nat) : kq x d (i + 1) = kq x d i ++ [x / 2 ^ (d - 1 - i) % 2] := by simp [kq, List.range_succ]
theorem K0 (x : Int) (d i : Nat) : (kq x d i).length = i := by simp [kq]
theorem Ml {x b : Int} {p : Nat} (hx : 0 ≤ x ∧ x < 256) (hb : 0 ≤ b ∧ b ≤ 1) (hp : p < 8) (hz : x / 2 ^ p % 2 = 0) : vl x b p = x + b * 2 ^ p := by
  have key : ∀ p : Fin 8, ∀ x : Fin 256, x.val / 2 ^ p.val % 2 = 0 → x.val ||| 1 * 2 ^ p.val = x.val + 2 ^ p.val := by decide +kernel
  obtain ⟨a, rfl⟩ : ∃ a : Nat, x = (a : Int) := ⟨x.toNat, by omega⟩
  have hz2 : a / 2 ^ p % 2 = 0 := by
    have e : ((a : Int) / 2 ^ p % 2) = ((a / 2 ^ p % 2 : Nat) : Int) := by push_cast; rfl
    omega
  have h := key ⟨p, hp⟩ ⟨a, by omega⟩ hz2
  unfold vl
  rw [Int.toNat_natCast]
  have hb2 : b = 0 ∨ b = 1 := by omega
  rcases hb2 with rfl | rfl
  · simp
  · show ((a ||| 1 * 2 ^ p : Nat) : Int) = _
    rw [h]
    push_cast
    rw [Int.one_mul]
theorem Mq {bs : List Int} (hb : mn bs) {i : Nat} (h : i < bs.length) {r : Int} (hr : r = (gX bs i).getD (i / 8) 0) : vl r (bs.getD i 0) (7 - i % 8) = (gX bs i).getD (i / 8) 0 + bs.getD i 0 * 2 ^ (7 - i % 8) := by
  subst hr
  rw [qH (by omega)]
  have h1 := xq hb i (i / 8)
  exact Ml h1 (by rcases hb.get i with e | e <;> rw [e] <;> decide) (by omega) (HQ hb i)
theorem No {bs : List Int} (hb : mn bs) {i : Nat} (h : i < bs.length) {r : Int} (hr : r = (gX bs i).getD (i / 8) 0) : (gX bs i).set (i / 8) (vl r (bs.getD i 0) (7 - i % 8)) = gX bs (i + 1) := by
  rw [Mq hb h hr, Ui h]
def Zm (kind : Int) (B A : List Int) (back i : Nat) : List Int := Vy kind B A back i ++ B.drop i
end Go.aa
namespace Go.aa
open Go.af Go.Sl
theorem Rz {k : Int} (h : 0 ≤ k ∧ k < 4) : ∃ d : Nat, iq d ∧ ([1, 2, 4, 8] : List Int).getD k.toNat 0 = (d : Int) := by
  have : k = 0 ∨ k = 1 ∨ k = 2 ∨ k = 3 := by omega
  rcases this with rfl | rfl | rfl | rfl
  · exact ⟨1, .inl rfl, rfl⟩
  · exact ⟨2, .inr (.inl rfl), rfl⟩
  · exact ⟨4, .inr (.inr (.inl rfl)), rfl⟩
  · exact ⟨8, .inr (.inr (.inr rfl)), rfl⟩
theorem za {d : Nat} (h : iq d) : 2 ≤ (2 : Int) ^ d ∧ (2 : Int) ^ d ≤ 256 := by
  unfold iq at h
  rcases h with rfl | rfl | rfl | rfl <;> decide
theorem KA {d : Nat} (h : iq d) : IntKind.i64.wrap (1 * 2 ^ (min ((d : Int)).toNat IntKind.i64.bits)) = 2 ^ d := by
  unfold iq at h
  rcases h with rfl | rfl | rfl | rfl <;> decide
theorem FZ {x : Int} (hx : 0 ≤ x ∧ x < 65536) {d : Nat} (hd : iq d) : IntKind.i64.wrap ((BitVec.ofInt IntKind.i64.bits x &&& BitVec.ofInt IntKind.i64.bits (2 ^ d - 1)).toNat : Int) = x % 2 ^ d := by
  obtain ⟨a, rfl⟩ : ∃ a : Nat, x = (a : Int) := ⟨x.toNat, by omega⟩
  have h2 := za hd
  have h8 := hd.of
  have e1 : (2 : Int) ^ d = ((2 ^ d : Nat) : Int) := by push_cast; rfl
  have e2 : (2 : Int) ^ d - 1 = ((2 ^ d - 1 : Nat) : Int) := by omega
  have e : IntKind.i64.bits = 64 := rfl
  rw [e2, e, BitVec.toNat_and, cn, cn, Nat.mod_eq_of_lt (by omega), Nat.mod_eq_of_lt (by omega), Nat.and_two_pow_sub_one_eq_mod]
  have hm : a % 2 ^ d < 2 ^ d := Nat.mod_lt _ (Nat.two_pow_pos d)
  rw [e1, show (a : Int) % ((2 ^ d : Nat) : Int) = ((a % 2 ^ d : Nat) : Int) by push_cast; rfl]
  exact Sl.eX (by omega) (by omega)
def tB (d : Nat) (key n : Int) : Int := if d = 8 then key else ((key.toNat ||| (n * 2 ^ d % 256).toNat : Nat) : Int)
theorem zo {v : List Int} {d i : Nat} (hv : v.length ≤ 256) (hd : iq d) : (dN (v.take i) d).length ≤ 2048 := by
  rw [rh]
  have h1 : (v.take i).length ≤ 256 := by rw [List.length_take]; omega
  calc (v.take i).length * d ≤ 256 * 8 := Nat.mul_le_mul h1 hd.of.2
    _ = 2048 := rfl
end Go.aa
namespace Go.Proofs.YtmaiakpjgomnpaaGreat
open Go.Sl
end Go.Proofs.YtmaiakpjgomnpaaGreat
namespace Go.Proofs.YtmaiakpjgomnpaaGreat
open Go.Sl
end Go.Proofs.YtmaiakpjgomnpaaGreat
namespace Go.Proofs.YtmaiakpjgomnpaaGreat
open Go.Sl
theorem V.ZQ : a7 Tryz.prog 50 0 = some 0 := by kernel_rfl
theorem V.ZL : a7 Tryz.prog 50 1 = some 1 := by kernel_rfl
end Go.Proofs.YtmaiakpjgomnpaaGreat
namespace Go.Proofs.YtmaiakpjgomnpaaGreat
open Go.Sl 
attribute [local irreducible] af.ak aa.kq aa.gX aa.Zm aa.mO aa.gz aa.mn af.vl
theorem NB {x : Int} {d i : Nat} (hx : 0 ≤ x ∧ x < 65536) : 0 ≤ x / 2 ^ (d - 1 - i) ∧ x / 2 ^ (d - 1 - i) < 2 ^ 62 := by
 have h0 : (0 : Int) < 2 ^ (d - 1 - i) := Int.pow_pos (by decide)
 have h1 := Int.ediv_nonneg hx.1 (Int.le_of_lt h0)
 have h2 : x / 2 ^ (d - 1 - i) ≤ x := Int.ediv_le_self _ hx.1
 exact ⟨h1, by omega⟩
theorem W7 {i : Nat} (h : i ≤ 1000000) : IntKind.i64.wrap ((i : Int).tdiv 8) = ((i / 8 : Nat) : Int) := by
 rw [Int.tdiv_eq_ediv_of_nonneg (by omega), show (i : Int) / 8 = ((i / 8 : Nat) : Int) by omega]
 exact eX (by omega) (by omega)
set_option maxHeartbeats 2000000 in
theorem TZ (bw : Nat) (p : Option Addr) (c : Nat) (bs : List Int) (x : Int) (d : Nat) (hx : 0 ≤ x ∧ x < 65536) (hd : d ≤ 16) (hbs : bs.length ≤ 100000) : aC Tryz.prog 24 [.pointer (some ⟨bw, 0, none⟩), .int .i64 x, .int .i64 (d : Int)] [ai bw 50 [.slice p bs.length c, .bool true], Row (aD 3 .i64) p bs.length c bs] (aG fun v G => v = .tuple #[] ∧ ∃ q cq, G = [ai bw 50 [.slice q (bs ++ aa.gQ x d).length cq, .bool true], Row (aD 3 .i64) q (bs ++ aa.gQ x d).length cq (bs ++ aa.gQ x d)]) := by
 refine au [(0, _), (1, _), (2, _)] Tryz.func24 rfl Tryz.ntmps24 rfl rfl ?_
 intro w0 F
 refine (QV) ?_
 rw [show Row (aD 3 .i64) p bs.length c bs = Row (aD 3 .i64) p (bs ++ aa.kq x d 0).length c (bs ++ aa.kq x d 0) from by unfold aa.kq; simp, show ai bw 50 [.slice p bs.length c, .bool true] = ai bw 50 [.slice p (bs ++ aa.kq x d 0).length c, .bool true] from by unfold aa.kq; simp]
 refine gM (fun (i : Nat) (q : Option Addr) (cq : Nat) => [(0, .pointer (some ⟨bw, 0, none⟩)), (1, .int .i64 x), (2, .int .i64 (d : Int)), (6, .int .i64 (i : Int))]) (fun (i : Nat) (q : Option Addr) (cq : Nat) => ai bw 50 [.slice q (bs ++ aa.kq x d i).length cq, .bool true] :: Row (aD 3 .i64) q (bs ++ aa.kq x d i).length cq (bs ++ aa.kq x d i) :: F) (fun (i : Nat) (q : Option Addr) (cq : Nat) => i ≤ d) (fun (i : Nat) (q : Option Addr) (cq : Nat) => d - i) (i3 (0) (_) (_) ?_ (eQ ln) (sub (aT .nil) ao)) ?_
 ·exact Nat.zero_le _
 intro i q cq
 rintro hi
 have hbl : (bs ++ aa.kq x d i).length = bs.length + i := by rw [List.length_append, aa.K0]
 refine (oM) ?_
 refine aF rfl (fun h10 => ?_) (fun h10 => ?_)
 ·refine rC TT 16 rfl<|(nJ)<|(Af) ?_
  have hq := NB (d := d) (i := i) hx
  refine (Qg)<|(Jq)<|(Q7) ?_
  refine oV (cW V.u3 Tryz.underlying302 rfl (show IntKind.u64.wrap ((d : Int) - 1 - (i : Int)) = ((d - 1 - i : Nat) : Int) from by rw [show (d : Int) - 1 - (i : Int) = ((d - 1 - i : Nat) : Int) by omega]; exact wF (by omega) (by omega)))<|oV (dP (r := x / 2 ^ (d - 1 - i)) rfl rfl (by omega) (af.lA (k := d - 1 - i) (by omega) rfl))<|oV (jG (r := (x / 2 ^ (d - 1 - i) % 2)) rfl rfl (af.Fb hq.1 hq.2))<|cM ((aD 3 .i64)) [(x / 2 ^ (d - 1 - i) % 2)] V.cA V.z3 rfl rfl rfl rfl rfl rfl ?_
  intro b32
  refine ff (c := ((aD 3 .i64))) V.cA V.z3 rfl rfl rfl rfl bj (own aA) (by omega) rfl ?_
  intro p33 c33
  refine (Q7) ?_
  refine cu (dz V.ml rfl rfl rfl (by exact zf) (by exact Nat.le_of_ble_eq_true rfl) rfl)<|(QG) ?_
  have hs : (bs ++ aa.kq x d i) ++ [(x / 2 ^ (d - 1 - i) % 2)] = bs ++ aa.kq x d (i + 1) := by rw [aa.TS, List.append_assoc]
  have hs2 : (bs ++ aa.kq x d i).length + 1 = (bs ++ aa.kq x d (i + 1)).length := by rw [← hs]; simp only [List.length_append, List.length_cons, List.length_nil]
  rw [hs, hs2]
  exact j3 (i + 1) _ _ ⟨by omega, by omega⟩ (eQ ln) (sub (.cons bj (aq .nil)) bC)
 ·refine (Q5) ?_
  obtain rfl : d = i := by omega
  rw [aa.Tr]
  exact gv ez ⟨rfl, _, _, rfl⟩ (sub (aT .nil) ao)
set_option maxHeartbeats 4000000 in
theorem Uy (bw : Nat) (p : Option Addr) (c : Nat) (bs : List Int) (hB : aa.mn bs) (hbs : bs.length ≤ 100000) : aC Tryz.prog 26 [.pointer (some ⟨bw, 0, none⟩)] [ai bw 50 [.slice p bs.length c, .bool true], Row (aD 3 .i64) p bs.length c bs] (aG fun v G => ∃ q cq, v = .slice q (aa.jc bs).length cq ∧ G = [Row U5 q (aa.jc bs).length cq (aa.jc bs), ai bw 50 [.slice p bs.length c, .bool true], Row (aD 3 .i64) p bs.length c bs]) := by
 refine au [(0, _)] Tryz.func26 rfl Tryz.ntmps26 rfl rfl ?_
 intro w0 F
 refine rT TT 10 rfl<|(Jq)<|(vA) ?_
 refine oV (ji (r := (((bs.length + 7) / 8 : Nat) : Int)) rfl rfl (by decide) (by rw [Int.tdiv_eq_ediv_of_nonneg (by omega), show ((bs.length : Int) + 7) / 8 = (((bs.length + 7) / 8 : Nat) : Int) by omega]; exact eX (by omega) (by omega)))<|kO ((bs.length + 7) / 8 : Nat) ((bs.length + 7) / 8 : Nat) (U5) rfl rfl V.bK V.z5 rfl rfl rfl rfl (by omega) (by omega) rfl rfl ?_
 intro yq
 refine (Qi) ?_
 rw [show List.replicate ((bs.length + 7) / 8) (0 : Int) = aa.gX bs 0 from (aa.S2 bs).symm]
 refine cB (fun (i : Nat) => [(0, .pointer (some ⟨bw, 0, none⟩)), (3, .slice (some ⟨yq, 0, none⟩) ((bs.length + 7) / 8 : Nat) ((bs.length + 7) / 8 : Nat)), (4, .int .i64 (i : Int))]) (fun (i : Nat) => Row U5 (some ⟨yq, 0, none⟩) ((bs.length + 7) / 8) ((bs.length + 7) / 8) (aa.gX bs i) :: ai bw 50 [.slice p bs.length c, .bool true] :: Row (aD 3 .i64) p bs.length c bs :: F) (fun (i : Nat) => i ≤ bs.length) (fun (i : Nat) => bs.length - i) (i1 (0) ?_ (fz ln) (sub (fQ .nil) ao)) ?_
 ·exact Nat.zero_le _
 intro i
 rintro hi
 refine rL TT 7 rfl<|oV (az V.ml rfl dM rfl)<|(Q8) ?_
 refine aF rfl (fun h20 => ?_) (fun h20 => ?_)
 ·refine (Qp) ?_
  refine oV (kX (r := ((i % 8 : Nat) : Int)) rfl rfl (by decide) ((mX (by omega)).trans (by omega)))<|(CV)<|(Qn)<|(rI)<|(Q3) ?_
  refine oV (jX (r := ((7 - i % 8 : Nat) : Int)) rfl rfl (by rw [show (7 : Int) - ((i % 8 : Nat) : Int) = ((7 - i % 8 : Nat) : Int) by omega]; exact wF (by omega) (by omega)))<|(Qe) ?_
  have hbi : 0 ≤ bs.getD i 0 ∧ bs.getD i 0 ≤ 1 := by rcases hB.get i with e | e <;> rw [e] <;> decide
  have hpi : 0 ≤ (aa.gX bs i).getD (i / 8) 0 ∧ (aa.gX bs i).getD (i / 8) 0 < 256 := by rw [aa.qH (by omega)]; exact aa.xq hB i (i / 8)
  have hpl := aa.lQ bs i
  have hg1 : U5.g (aa.gX bs i) ((i / 8 : Nat) : Int) = (aa.gX bs i).getD (i / 8) 0 := rfl
  have hg2 : (aD 3 .i64).g bs (i : Int) = bs.getD i 0 := rfl
  refine XN V.mixed (by kernel_rfl)<|rR TT 2 rfl<|(Vt) ?_
  refine rR TT 2 rfl<|(Vt) ?_
  refine oR (xI V.bK (own aA))<|oR (xL V.s5 (own aA))<|rR TT 3 rfl<|oR (az V.ml rfl dM rfl)<|(vu) ?_
  refine oR (qY (c := ((aD 3 .i64))) V.cA rfl rfl (own dL) (by omega) (by omega))<|oR (yT (c := ((aD 3 .i64))) V.s3 rfl (own dL) (by omega) (by omega) rfl rfl)<|oR (cW V.u3 Tryz.underlying5 rfl (qP hbi.1 (by omega)))<|(vu) ?_
  refine oR (gS (r := bs.getD i 0 * 2 ^ (7 - i % 8)) rfl rfl (by omega) (af.XF hbi (by omega) rfl))<|oR (ow (r := (af.vl ((aa.gX bs i).getD (i / 8) 0) (bs.getD i 0) (7 - i % 8))) rfl rfl (af.MI hpi hbi (by omega)))<|oR (xI V.bK (own aA))<|Rg.df<|(VJ)<|(QG) ?_
  rw [show List.set (aa.gX bs i) (((i / 8 : Nat) : Int)).toNat (af.vl ((aa.gX bs i).getD (i / 8) 0) (bs.getD i 0) (7 - i % 8)) = aa.gX bs (i + 1) from aa.No hB (by omega) rfl]
  exact j1 (i + 1) ⟨by omega, by omega⟩ (fz ln) (sub (fQ .nil) ao)
 ·refine rC TT 12 rfl ?_
  obtain rfl : bs.length = i := by omega
  rw [show (bs.length + 7) / 8 = (aa.jc bs).length from (aa.A8 bs).symm]
  exact ag (aw rfl) ⟨_, _, rfl, rfl⟩ (sub (fQ .nil) ao)
end Go.Proofs.YtmaiakpjgomnpaaGreat
namespace Go.Proofs.YtmaiakpjgomnpaaGreat
open Go.Sl
theorem V.EU : aB Tryz.prog 24 = true := by kernel_rfl
theorem V.yi : aB Tryz.prog 26 = true := by kernel_rfl
theorem V.WY : ew Tryz.prog 50 = some [(0, 1), (1, 1)] := by kernel_rfl
theorem V.YH : cm Tryz.prog 50 = some ([.slice none 0 0, .bool false]) := by kernel_rfl
end Go.Proofs.YtmaiakpjgomnpaaGreat
namespace Go.Proofs.YtmaiakpjgomnpaaGreat
open Go.Sl 
attribute [local irreducible] af.ak aa.cP aa.aU aa.eA aa.cY aa.jV aa.js aa.gF aa.gP aa.RG aa.jc aa.Sp aa.dN aa.gQ aa.tB aa.iq aa.mn
abbrev rp (h : List Int) (b : Nat) (ms : List Ce) (q : Option Addr) (c : Nat) (z : List Int) : List Ce := Ce.mk aa.bQ (some ⟨b, 0, none⟩) 13 h :: (ms ++ [Ce.mk aa.ba q c z, Ce.mk aa.aY none 0 []])
theorem GO (a b c d e : Ce) : Instr.fill (fun i => some (i * aQ.sz, aQ.sz)) ((List.replicate 5 [Value.string ByteArray.empty, .slice none 0 0]).flatten.toArray) [(0, .agg (aQ.e a).toArray), (1, .agg (aQ.e b).toArray), (2, .agg (aQ.e c).toArray), (3, .agg (aQ.e d).toArray), (4, .agg (aQ.e e).toArray)] = some (([a, b, c, d, e] : List Ce).flatMap aQ.e).toArray := by
  simp [Instr.fill, Value.cells, List.replicate]
theorem wH {h : List Int} {b : Nat} {ms : List Ce} {mid : List aa.Ch} {q : Option Addr} {c : Nat} {z : List Int} (hm : ms.map Ce.ch = mid) : (rp h b ms q c z).map Ce.ch = aa.gr h mid z := by
  simp only [rp, List.map_cons, List.map_append, hm]
  rfl
theorem O1 {h : List Int} {b : Nat} {ms : List Ce} {mid : List aa.Ch} {q : Option Addr} {c : Nat} {z : List Int} (o : aa.kS h mid z) (hm : ms.map Ce.ch = mid) : ∀ x ∈ rp h b ms q c z, aa.js x.ch := fun x hx => by
  have k := o.ok
  rw [← wH (b := b) (q := q) (c := c) hm] at k
  exact k _ (List.mem_map.2 ⟨x, hx, rfl⟩)
end Go.Proofs.YtmaiakpjgomnpaaGreat
namespace Go.aa
open Go.af Go.Sl
def Z0 (P : List Int) (W : Nat) (p : Ps) (y x k : Nat) : List Int := JP P W p y x ++ two ((Vz P (V0 W p y x)).take k)
def lcY (P : List Int) (W : Nat) (n : Int) (A : List Int) (p : Ps) (y : Nat) : List Int := A ++ Mp P W n p y
end Go.aa
namespace Go.aa
open Go.af Go.Sl
def gT (t : Int × Int × Int) : List Int := [t.1, t.2.1, t.2.2]
def eW (T : List (Int × Int × Int)) (i : Nat) : List Int := gk ((T.take i).map gT)
def Ay (T : List (Int × Int × Int)) : Prop := ∀ t ∈ T, (0 ≤ t.1 ∧ t.1 < 256) ∧ (0 ≤ t.2.1 ∧ t.2.1 < 256) ∧ (0 ≤ t.2.2 ∧ t.2.2 < 256)
theorem Im (T : List (Int × Int × Int)) : eW T 0 = [] := rfl
theorem UI {T : List (Int × Int × Int)} {i : Nat} (h : i < T.length) : eW T i ++ [(T.getD i (0, 0, 0)).1, (T.getD i (0, 0, 0)).2.1, (T.getD i (0, 0, 0)).2.2] = eW T (i + 1) := by
  have e : T.getD i (0, 0, 0) = T[i] := by rw [List.getD_eq_getElem?_getD, List.getElem?_eq_getElem h]; rfl
  unfold eW
  rw [e, ← List.take_append_getElem h, List.map_append, List.map_singleton, TO]
  rfl
theorem A7 (T : List (Int × Int × Int)) {i : Nat} (h : i ≤ T.length) : (eW T i).length = 3 * i := by
  have hT : ∀ l : List (Int × Int × Int), (gk (l.map gT)).length = 3 * l.length := by
    intro l
    induction l with
    | nil => rfl
    | cons t l ih =>
      have e : gk ((t :: l).map gT) = gT t ++ gk (l.map gT) := rfl
      rw [e, List.length_append, ih, List.length_cons]
      show 3 + _ = _
      omega
  unfold eW
  rw [hT, List.length_take]; omega
theorem Ax {T : List (Int × Int × Int)} (h : Ay T) (i : Nat) : (0 ≤ (T.getD i (0, 0, 0)).1 ∧ (T.getD i (0, 0, 0)).1 < 256) ∧ (0 ≤ (T.getD i (0, 0, 0)).2.1 ∧ (T.getD i (0, 0, 0)).2.1 < 256) ∧ (0 ≤ (T.getD i (0, 0, 0)).2.2 ∧ (T.getD i (0, 0, 0)).2.2 < 256) := by
  rcases Nat.lt_or_ge i T.length with k | k
  · rw [List.getD_eq_getElem?_getD, List.getElem?_eq_getElem k]; exact h _ (List.getElem_mem k)
  · rw [List.getD_eq_getElem?_getD, List.getElem?_eq_none k]; decide
theorem LV {T : List (Int × Int × Int)} (h : Ay T) : FI (T.map gT) := fun t ht => by
  obtain ⟨x, hx, rfl⟩ := List.mem_map.1 ht
  have hc := h x hx
  exact ⟨rfl, aH.jZ hc.1 (aH.jZ hc.2.1 (aH.jZ hc.2.2 aJ.gK))⟩
def cQ (v : List Int) (d : Nat) : List Int := v.map fun x => x % 2 ^ d
theorem eL (v : List Int) (d : Nat) : (cQ v d).length = v.length := List.length_map ..
theorem qv {v : List Int} {d i : Nat} (h : i < v.length) : (cQ v d).getD i 0 = v.getD i 0 % 2 ^ d := by
  unfold cQ
  rw [List.getD_eq_getElem?_getD, List.getElem?_map, List.getElem?_eq_getElem h, List.getD_eq_getElem?_getD, List.getElem?_eq_getElem h]
  rfl
theorem w9 {v : List Int} {d i : Nat} (h : i < v.length) : dN ((cQ v d).take i) d ++ gQ (v.getD i 0 % 2 ^ d) d = dN ((cQ v d).take (i + 1)) d := by
  rw [← qv h, ad.gR (by rw [eL]; exact h), TP]
theorem Ji {v : List Int} {d i : Nat} (hv : v.length ≤ 256) (hd : iq d) : (dN ((cQ v d).take i) d).length ≤ 2048 := zo (by rw [eL]; exact hv) hd
def kF (v : List Int) (d n i : Nat) : Prop := ∃ x ∈ (cQ v d).take i, (n : Int) ≤ x
instance (v : List Int) (d n i : Nat) : Decidable (kF v d n i) := by unfold kF; infer_instance
theorem Uz (v : List Int) (d n : Nat) : ¬ kF v d n 0 := by unfold kF; simp
theorem CM {v : List Int} {d n i : Nat} (h : i < v.length) : kF v d n (i + 1) ↔ kF v d n i ∨ (n : Int) ≤ v.getD i 0 % 2 ^ d := by
  unfold kF
  rw [ad.gR (by rw [eL]; exact h), qv h]
  constructor
  · rintro ⟨x, hx, hn⟩
    rcases List.mem_append.1 hx with hx | hx
    · exact .inl ⟨x, hx, hn⟩
    · rw [List.mem_singleton.1 hx] at hn; exact .inr hn
  · rintro (⟨x, hx, hn⟩ | hn)
    · exact ⟨x, List.mem_append.2 (.inl hx), hn⟩
    · exact ⟨_, List.mem_append.2 (.inr (List.mem_singleton.2 rfl)), hn⟩
theorem Yg {v : List Int} {d n i : Nat} (bn : Bool) (hb : bn = decide (kF v d n i)) (k : Int) : (bn = true ∧ kF v d n i) ∨ (bn = false ∧ ¬ kF v d n i ∧ (n : Int) ≤ k) ∨ (bn = false ∧ ¬ kF v d n i ∧ k < n) := by
  by_cases h : kF v d n i
  · exact .inl ⟨hb.trans (decide_eq_true h), h⟩
  · rcases Int.lt_or_le k n with hk | hk
    · exact .inr (.inr ⟨hb.trans (decide_eq_false h), h, hk⟩)
    · exact .inr (.inl ⟨hb.trans (decide_eq_false h), h, hk⟩)
structure nT (v : List Int) (T : List (Int × Int × Int)) (al : List Int) (d : Nat) : Prop where
  hn : 1 ≤ v.length ∧ v.length ≤ 200
  hd : iq d
  hT : 1 ≤ T.length ∧ T.length ≤ 256 ∧ T.length ≤ 2 ^ d
  hc : Ay T
  ha : ak al ∧ al.length ≤ T.length
theorem nT.ok {v : List Int} {T : List (Int × Int × Int)} {al : List Int} {d : Nat} (o : nT v T al d) : FD (cQ v d) (T.map gT) al d := by
  refine ⟨by rw [eL]; exact o.hn, o.hd, by rw [List.length_map]; exact o.hT, LV o.hc, ⟨o.ha.1, by rw [List.length_map]; exact o.ha.2⟩, fun x hx => ?_⟩
  obtain ⟨y, _, rfl⟩ := List.mem_map.1 hx
  have h2 := za o.hd
  exact ⟨Int.emod_nonneg _ (by omega), Int.emod_lt_of_pos _ (by omega)⟩
def lD (T : List (Int × Int × Int)) (al : List Int) : List Ch := [⟨aN, eW T T.length⟩, ⟨aS, al⟩]
theorem uY (T : List (Int × Int × Int)) : eW T T.length = gk (T.map gT) := by unfold eW; rw [List.take_length]
theorem nT.fl {v : List Int} {T : List (Int × Int × Int)} {al : List Int} {d : Nat} (o : nT v T al d) : kS (eR v.length d 3) (lD T al) (cP (cH (cQ v d) d)) := by
  have h := o.ok.fl
  rw [eL] at h
  unfold lD
  rw [uY]
  exact h
theorem nT.none {v : List Int} {T : List (Int × Int × Int)} {al : List Int} {d : Nat} (o : nT v T al d) (h : kF v d T.length v.length) : jV (aU (gr (eR v.length d 3) (lD T al) (cP (cH (cQ v d) d)))) (⟨0, 0, []⟩, 4) := by
  have k := vd o.ok
  have hn : ¬ ∀ x ∈ cQ v d, x < ((T.map gT).length : Int) := by
    rw [List.length_map]
    intro hall
    obtain ⟨x, hx, hge⟩ := h
    have := hall x (List.mem_of_mem_take hx)
    omega
  rw [if_neg hn] at k
  unfold pF at k
  rw [eL] at k
  unfold lD
  rw [uY]
  exact k
theorem nT.some {v : List Int} {T : List (Int × Int × Int)} {al : List Int} {d : Nat} (o : nT v T al d) (h : ¬ kF v d T.length v.length) : jV (aU (gr (eR v.length d 3) (lD T al) (cP (cH (cQ v d) d)))) (⟨(v.length : Int), 1, pP (cQ v d) (T.map gT) al⟩, 0) := by
  have k := vd o.ok
  have hall : ∀ x ∈ cQ v d, x < ((T.map gT).length : Int) := by
    rw [List.length_map]
    intro x hx
    refine Int.not_le.1 fun hge => h ⟨x, ?_, hge⟩
    rw [← eL v d, List.take_length]
    exact hx
  rw [if_pos hall] at k
  unfold pF at k
  rw [eL] at k
  unfold lD
  rw [uY]
  exact k
theorem Pm {v : List Int} {d n i : Nat} (h : ¬ kF v d n v.length) (hi : i < v.length) : v.getD i 0 % 2 ^ d < n := by
  refine Int.not_le.1 fun hge => h ⟨_, ?_, hge⟩
  rw [← eL v d, List.take_length, ← qv hi]
  rw [List.getD_eq_getElem?_getD, List.getElem?_eq_getElem (by rw [eL]; exact hi)]
  exact List.getElem_mem _
def mG (al : List Int) (k : Int) : Int := if k.toNat < al.length then al.getD k.toNat 0 else 255
theorem Ul {al : List Int} {k : Int} (h : k.toNat < al.length) : mG al k = al.getD k.toNat 0 := if_pos h
theorem Uq {al : List Int} {k : Int} (h : ¬ k.toNat < al.length) : mG al k = 255 := if_neg h
theorem Ox {al : List Int} (h : ak al) (k : Int) : 0 ≤ mG al k ∧ mG al k < 256 := by
  unfold mG
  split
  · exact h.get _
  · decide
theorem zX (v : List Int) (T : List (Int × Int × Int)) (al : List Int) (d : Nat) : (pP (cQ v d) (T.map gT) al).length = 4 * v.length := by rw [ub, eL]
theorem Uu {v : List Int} {T : List (Int × Int × Int)} {al : List Int} {d i : Nat} (hi : i < v.length) {k : Int} (hk : k = v.getD i 0 % 2 ^ d) (h0 : 0 ≤ k) (hT : k < T.length) : FL (v.length : Int) (pP (cQ v d) (T.map gT) al) (i : Int) 0 = [(T.getD k.toNat (0, 0, 0)).1 * 257, (T.getD k.toNat (0, 0, 0)).2.1 * 257, (T.getD k.toNat (0, 0, 0)).2.2 * 257, mG al k * 257] := by
  have hl := zX v T al d
  have hg : ∀ j, j < 4 → (pP (cQ v d) (T.map gT) al).getD (4 * i + j) 0 = (m7 (T.map gT) al k).getD j 0 := fun j hj => by
    rw [pC (by rw [eL]; exact hi) hj, qv hi, ← hk]
  have hm : (T.map gT).getD k.toNat [] = gT (T.getD k.toNat (0, 0, 0)) := by
    have hlt : k.toNat < T.length := by omega
    rw [List.getD_eq_getElem?_getD, List.getElem?_map, List.getElem?_eq_getElem hlt, List.getD_eq_getElem?_getD, List.getElem?_eq_getElem hlt]
    rfl
  have e : (4 * ((0 : Int) * (v.length : Int) + (i : Int))).toNat = 4 * i := by omega
  unfold FL
  rw [e]
  have hpx : m7 (T.map gT) al k = [(T.getD k.toNat (0, 0, 0)).1 * 257, (T.getD k.toNat (0, 0, 0)).2.1 * 257, (T.getD k.toNat (0, 0, 0)).2.2 * 257, mG al k * 257] := by
    unfold m7 mG
    rw [hm]
    split <;> rfl
  rw [← hpx]
  refine List.ext_getElem (by rw [List.length_take, List.length_drop, hl]; show _ = 4; omega) (fun j h1 h2 => ?_)
  have hj : j < 4 := h2
  rw [List.getElem_take, List.getElem_drop]
  have := hg j hj
  rw [List.getD_eq_getElem?_getD, List.getElem?_eq_getElem (by omega), List.getD_eq_getElem?_getD, List.getElem?_eq_getElem h2] at this
  exact this
end Go.aa
namespace Go.Proofs.YtmaiakpjgomnpaaGreat
open Go.Sl
theorem V.Zk : aB Tryz.prog 30 = true := by kernel_rfl
end Go.Proofs.YtmaiakpjgomnpaaGreat
namespace Go.Proofs.YtmaiakpjgomnpaaGreat
open Go.Sl
theorem V.lL : gq Tryz.prog 116 = some (3, 5, 1) := by kernel_rfl
theorem V.Mn : gq Tryz.prog 72 = some (2, 22, 1) := by kernel_rfl
theorem V.YZ : aB Tryz.prog 31 = true := by kernel_rfl
theorem V.XR : sliceB Tryz.prog 73 = some (116, 3, 3) := by kernel_rfl
end Go.Proofs.YtmaiakpjgomnpaaGreat
namespace Go.Proofs.YtmaiakpjgomnpaaGreat
open Go.Sl 
attribute [local irreducible] af.ak aa.cP aa.aU aa.eA aa.cY aa.jV aa.js aa.eW aa.cQ aa.kF aa.dN aa.gQ aa.jc aa.cH aa.iq aa.mn aa.pP aa.mG aa.aW
abbrev C3 : Ec (Int × Int × Int) := ⟨116, 3, fun x => [.int .u8 x.1, .int .u8 x.2.1, .int .u8 x.2.2], (0, 0, 0), fun _ => rfl, fun _ => rfl⟩
def DR (es : List Ce) : ab := fun w0 h => ∀ x ∈ es, aE U5 x.p x.d.length x.d w0 h
theorem M9 {h : List Int} {b : Nat} {pl q p3 : Option Addr} {cl c c1 c3 : Nat} {z T al : List Int} (h13 : h.length = 13) {w0 : World} {hp : Hp} (hn : H8 w0 hp) (hh : bU w0 [Row U5 (some ⟨b, 0, none⟩) 13 c1 h, Row U5 pl T.length cl T, Row U5 q z.length c z, aE U5 p3 al.length al] hp) : DR (rp h b [Ce.mk aa.aN pl cl T, Ce.mk aa.aS p3 c3 al] q c z) w0 hp := by
  obtain ⟨h1, h2, _, l1, l2, a, h3, h4, _, l3, l4, d, h5, h6, _, l5, l6, e, h7, h8, _, l7, _, f, _⟩ := hh
  intro x hx
  simp only [rp, List.mem_cons, List.cons_append, List.nil_append, List.not_mem_nil, or_false] at hx
  rcases hx with rfl | rfl | rfl | rfl | rfl
  · have := (Row.rd a).wA hn l1
    rw [← h13] at this
    exact this
  · exact (Row.rd d).wA hn (Hp.le_trans l3 l2)
  · exact f.wA hn (Hp.le_trans l7 (Hp.le_trans l6 (Hp.le_trans l4 l2)))
  · exact (Row.rd e).wA hn (Hp.le_trans l5 (Hp.le_trans l4 l2))
  · exact ⟨rfl, by simp, .inl rfl⟩
set_option maxHeartbeats 16000000 in
theorem CU (p1 : Option Addr) (cap1 : Nat) (vv : List Int) (p2 : Option Addr) (cap2 : Nat) (tb : List (Int × Int × Int)) (p3 : Option Addr) (cap3 : Nat) (al : List Int) (d : Nat) (h1 : vv.length ≤ cap1) (h2 : tb.length ≤ cap2) (h3 : al.length ≤ cap3) (hB : af.ak vv) (hT : aa.Ay tb) (hA : af.ak al) (hn : 1 ≤ vv.length ∧ vv.length ≤ 200) (ht : 1 ≤ tb.length ∧ tb.length ≤ 256) (ha : al.length ≤ tb.length) (hd : aa.iq d) : aC Tryz.prog 31 [.slice p1 vv.length cap1, .slice p2 tb.length cap2, .slice p3 al.length cap3, .int .i64 (d : Int)] [aE U5 p1 vv.length vv, aE C3 p2 tb.length tb, aE U5 p3 al.length al, aE U5 p3 al.length al] (aG fun v G => v = .bool true ∧ G = []) := by
  refine au [(0, _), (1, _), (2, _), (3, _)] Tryz.func31 rfl Tryz.ntmps31 rfl rfl ?_
  intro w0 F
  have h2d := aa.za hd
  have AL := hd.of
  have h2n : ((2 ^ d : Nat) : Int) = 2 ^ d := by push_cast; rfl
  refine (QI) ?_
  rcases (Int.lt_or_le (2 ^ d) (tb.length : Int)) with hq | hq
  ·
    refine (Qd)<|(CV)<|(IL)<|(Qt)<|(Q3)<|(I8) ?_
    rintro _ _ ⟨rfl, rfl⟩
    refine (Q3) ?_
    exact ag (aw rfl) ⟨rfl, rfl⟩ (sub .nil k6)
  ·
    refine (Qd)<|(CV)<|(IL)<|(Qq)<|(Qc) ?_
    refine oV (c5 V.WY V.YH rfl (cs := [_, _]) rfl)<|iL rfl (cs := [_, _]) rfl rfl ?_
    intro mR
    refine (QK) ?_
    refine Je (B := ai mR 50 [.slice none 0 0, .bool true]) dg (fun h hh => hh)<|(vg) ?_
    rw [show Row U5 none 0 0 [] = Row U5 none (aa.eW tb 0).length 0 (aa.eW tb 0) from by rw [aa.Im]; rfl, show ((10 : Nat), Value.slice none 0 0) = (10, .slice none (aa.eW tb 0).length 0) from by rw [aa.Im]; rfl]
    refine gM (fun (i : Nat) (pl : Option Addr) (cl : Nat) => [(0, .slice p1 vv.length cap1), (1, .slice p2 tb.length cap2), (2, .slice p3 al.length cap3), (3, .int .i64 (d : Int)), (9, .pointer (some ⟨mR, 0, none⟩)), (10, .slice pl (aa.eW tb i).length cl), (11, .int .i64 (i : Int))]) (fun (i : Nat) (pl : Option Addr) (cl : Nat) => Row U5 pl (aa.eW tb i).length cl (aa.eW tb i) :: ai mR 50 [.slice none 0 0, .bool true] :: aE U5 p1 vv.length vv :: aE C3 p2 tb.length tb :: aE U5 p3 al.length al :: aE U5 p3 al.length al :: F) (fun (i : Nat) (pl : Option Addr) (cl : Nat) => i ≤ tb.length) (fun (i : Nat) (pl : Option Addr) (cl : Nat) => tb.length - i) (i3 (0) (_) (_) ?_ (jg (bN ln)) (sub (aq (kp .nil)) ao)) ?_
    ·
      exact Nat.zero_le _
    intro i pl cl
    rintro hi
    refine rL TT 9 rfl ?_
    refine aF rfl (fun h39 => ?_) (fun h39 => ?_)
    ·
      refine (Q5) ?_
      have hcg := aa.Ax hT i
      have hpl := aa.A7 tb (i := i) (by omega)
      refine jf [pz 0 [] [10], pz 0 [] [1], pz 0 [] [11], pz 6 [1, 2] [], pz 14 [3] [], pz 30 [4] [], pz 0 [] [1], pz 0 [] [11], pz 192 [6, 7] [], pz 448 [8] [], pz 960 [9] [], pz 0 [] [1], pz 0 [] [11], pz 6144 [11, 12] [], pz 14336 [13] [], pz 30720 [14] [], pz 65534 [5, 10, 15] [], pz 131071 [0, 16] [], pz 262143 [17] []] [⟨fun y => Row U5 pl (aa.eW tb i).length cl (aa.eW tb i), none, some 17, []⟩, ⟨fun y => ai mR 50 [.slice none 0 0, .bool true], none, none, []⟩, ⟨fun y => aE U5 p1 vv.length vv, none, none, []⟩, ⟨fun y => aE C3 p2 tb.length tb, none, none, [3, 5, 8, 10, 13, 15]⟩, ⟨fun y => aE U5 p3 al.length al, none, none, []⟩, ⟨fun y => aE U5 p3 al.length al, none, none, []⟩, ⟨fun y => Row (U5) (some ⟨(ia (ea (y 16))), 0, none⟩) 3 3 [(C3.g tb (i : Int)).1, (C3.g tb (i : Int)).2.1, (C3.g tb (i : Int)).2.2], some 16, none, [17]⟩, ⟨fun y => Row (U5) (ea (y 17)) ((aa.eW tb i).length + 3) (fC (y 17)) ((aa.eW tb i) ++ [(C3.g tb (i : Int)).1, (C3.g tb (i : Int)).2.1, (C3.g tb (i : Int)).2.2]), some 17, none, []⟩] F V.mixed (by kernel_rfl) rfl (fun _ => .refl _) (aP _ (aP _ (aP _ (aP _ (aP _ (aP _ (cK _ rfl (by intro y y2 h; simp only [h 16 (.inl rfl)]) (cK _ rfl (by intro y y2 h; simp only [h 17 (.inl rfl)]) eV)))))))) ?_
      iterate 3 refine nM ?_
      refine (sQ) ?_
      refine nV (fun y hA L => dh 0 rfl V.lL rfl rfl (by omega)) ?_
      refine (Wz) ?_
      iterate 2 refine nM ?_
      refine (sQ) ?_
      refine nV (fun y hA L => dh 1 rfl V.lL rfl rfl (by omega)) ?_
      refine (Wb) ?_
      iterate 2 refine nM ?_
      refine (sQ) ?_
      refine nV (fun y hA L => dh 2 rfl V.lL rfl rfl (by omega)) ?_
      refine (VU) ?_
      refine eK (fun y v => .slice (some ⟨ia (ea v), 0, none⟩) 3 3) (fun y v => True) _ _ (fun y v => [Row (U5) (some ⟨(ia (ea v)), 0, none⟩) 3 3 [(C3.g tb (i : Int)).1, (C3.g tb (i : Int)).2.1, (C3.g tb (i : Int)).2.2]]) _ (fun y => rfl) (fun y => rfl) (fun y => rfl) (fun y => rfl) (fun y FF hA => Bc (rX (U5) ([(C3.g tb (i : Int)).1, (C3.g tb (i : Int)).2.1, (C3.g tb (i : Int)).2.2]) V.bK V.z5 rfl rfl rfl rfl rfl)) (by intros; rfl) (by intros; rfl) (by intros; rfl) (by intro y y2 h; simp only [h 16 (.inl rfl)]) (by intro y y2 h; rfl) ?_
      refine eK (fun y v => .slice (ea v) ((aa.eW tb i).length + 3) (fC v)) (fun y v => True) _ _ (fun y v => [Row (U5) (ea v) ((aa.eW tb i).length + 3) (fC v) ((aa.eW tb i) ++ [(C3.g tb (i : Int)).1, (C3.g tb (i : Int)).2.1, (C3.g tb (i : Int)).2.2])]) _ (fun y => rfl) (fun y => rfl) (fun y => rfl) (fun y => rfl) (fun y FF hA => qO (mS (c := (U5)) V.bK V.z5 rfl rfl rfl rfl dg (own dM) (by omega)) (.refl _)) (by intros; rfl) (by intros; rfl) (by intros; rfl) (by intro y y2 h; simp only [h 16 (.inr (by decide)), h 17 (.inl rfl)]) (by intro y y2 h; rfl) ?_
      refine ei _ (fun y => rfl) rfl rfl rfl (fun y hA L => dE (iO rfl) ⟨rfl, rfl⟩) (by intros; rfl) (by intro y y2 h; simp only [h 17 (.inr (by decide))]) ?_
      refine (Qb) ?_
      intro y hA
      clear hA
      refine rN TT 2 rfl<|bD [(0, .slice p1 vv.length cap1), (1, .slice p2 tb.length cap2), (2, .slice p3 al.length cap3), (3, .int .i64 (d : Int)), (9, .pointer (some ⟨mR, 0, none⟩)), (10, .slice (ea (y 17)) ((aa.eW tb i).length + 3) (fC (y 17))), (11, .int .i64 (i : Int))] (.cons (d := 0) rfl (.cons (d := 1) rfl (.cons (d := 2) rfl (.cons (d := 3) rfl (.cons (d := 9) rfl (.cons (d := 10) rfl (.cons (d := 11) rfl (.nil _))))))))<|bb (M := ai mR 50 [.slice none 0 0, .bool true] :: aE U5 p1 vv.length vv :: aE C3 p2 tb.length tb :: aE U5 p3 al.length al :: aE U5 p3 al.length al :: Row (U5) (some ⟨(ia (ea (y 16))), 0, none⟩) 3 3 [(C3.g tb (i : Int)).1, (C3.g tb (i : Int)).2.1, (C3.g tb (i : Int)).2.2] :: Row (U5) (ea (y 17)) ((aa.eW tb i).length + 3) (fC (y 17)) ((aa.eW tb i) ++ [(C3.g tb (i : Int)).1, (C3.g tb (i : Int)).2.1, (C3.g tb (i : Int)).2.2]) :: F) (fun _ _ h => h) ?_
      generalize (ia (ea (y 16))) = vr
      generalize (ea (y 17)) = p59
      generalize (fC (y 17)) = c59
      refine jz TT 5 rfl (by omega) ?_
      have e2 := aa.UI (T := tb) (i := i) (by omega)
      have e3 : (aa.eW tb i).length + 3 = (aa.eW tb (i + 1)).length := by rw [← e2, List.length_append]; rfl
      rw [show (aa.eW tb i) ++ [(C3.g tb (i : Int)).1, (C3.g tb (i : Int)).2.1, (C3.g tb (i : Int)).2.2] = (aa.eW tb (i + 1)) from e2, e3]
      exact j3 (i + 1) _ _ ⟨by omega, by omega⟩ (jg (bN ln)) (sub (.cons mF (kp .nil)) bC)
    ·
      refine (Qd) ?_
      obtain rfl : i = tb.length := by omega
      have hpf := aa.A7 tb (i := tb.length) (Nat.le_refl _)
      refine (nS) ?_
      refine Je (A := ai mR 50 _) (B := ai mR 50 [.slice none (aa.dN ((aa.cQ vv d).take 0) d).length 0, .bool true]) ay (fun h hh => by rw [show (aa.dN ((aa.cQ vv d).take 0) d).length = 0 from by unfold aa.dN; simp]; exact hh)<|jk (Row (aD 3 .i64) none 0 0 []) (Row.nil _ _ _) ?_
      rw [show Row (aD 3 .i64) none 0 0 [] = Row (aD 3 .i64) none (aa.dN ((aa.cQ vv d).take 0) d).length 0 (aa.dN ((aa.cQ vv d).take 0) d) from by unfold aa.dN; simp]
      refine zI (fun (i : Nat) (q : Option Addr) (cq : Nat) (bn : Bool) => [(0, .slice p1 vv.length cap1), (1, .slice p2 tb.length cap2), (2, .slice p3 al.length cap3), (3, .int .i64 (d : Int)), (9, .pointer (some ⟨mR, 0, none⟩)), (10, .slice pl (aa.eW tb tb.length).length cl), (12, .bool bn), (13, .int .i64 (i : Int))]) (fun (i : Nat) (q : Option Addr) (cq : Nat) (bn : Bool) => ai mR 50 [.slice q (aa.dN ((aa.cQ vv d).take i) d).length cq, .bool true] :: Row (aD 3 .i64) q (aa.dN ((aa.cQ vv d).take i) d).length cq (aa.dN ((aa.cQ vv d).take i) d) :: Row U5 pl (aa.eW tb tb.length).length cl (aa.eW tb tb.length) :: aE U5 p1 vv.length vv :: aE C3 p2 tb.length tb :: aE U5 p3 al.length al :: aE U5 p3 al.length al :: F) (fun (i : Nat) (q : Option Addr) (cq : Nat) (bn : Bool) => i ≤ vv.length ∧ bn = decide (aa.kF vv d tb.length i)) (fun (i : Nat) (q : Option Addr) (cq : Nat) (bn : Bool) => vv.length - i) (i4 (0) (_) (_) (false) ?_ (fz (bN ln)) (sub (.cons ay (aq (kp .nil))) ao)) ?_
      ·
        exact ⟨Nat.zero_le _, (decide_eq_false (aa.Uz vv d _)).symm⟩
      intro i q cq bn
      rintro ⟨hi, hbn⟩
      refine rL TT 9 rfl ?_
      refine aF rfl (fun h63 => ?_) (fun h63 => ?_)
      ·
        refine (Qg) ?_
        have hvb := hB.get i
        have hm0 : 0 ≤ (vv.getD i 0 % 2 ^ d) := Int.emod_nonneg _ (by omega)
        have hm1 : (vv.getD i 0 % 2 ^ d) < 2 ^ d := Int.emod_lt_of_pos _ (by omega)
        have hbl := aa.Ji (v := vv) (d := d) (i := i) (by omega) hd
        refine (Q4) ?_
        refine oV (xI V.bK (by exact bG (fun _ _ h => h) ig))<|oV (xL V.s5 (by exact bG (fun _ _ h => h) ig)) ?_
        rw [show U5.g vv (i : Int) = vv.getD i 0 from rfl]
        refine (qa)<|(Q6)<|(CV)<|(IL) ?_
        refine oV (jX (r := (2 : Int) ^ d - 1) rfl rfl wI)<|(UM)<|(Qe) ?_
        rcases (aa.Yg bn hbn (vv.getD i 0 % 2 ^ d)) with hk | hk | hk
        ·
          refine (Q9) ?_
          obtain rfl := hk.1
          refine rC TT 15 rfl<|(N1) ?_
          rintro _ _ ⟨rfl, q2, cq2, rfl⟩
          rw [aa.w9 (by omega)]
          refine (QG) ?_
          exact j4 (i + 1) _ _ true ⟨⟨by omega, (decide_eq_true ((aa.CM (by omega)).2 (.inl hk.2))).symm⟩, by omega⟩ (fz (bN ln)) (sub (aT (kp .nil)) ao)
        ·
          refine (Q9) ?_
          obtain rfl := hk.1
          refine (Qd)<|(Q0)<|(QN)<|(Qj)<|(N1) ?_
          rintro _ _ ⟨rfl, q2, cq2, rfl⟩
          rw [aa.w9 (by omega)]
          refine (QG) ?_
          exact j4 (i + 1) _ _ true ⟨⟨by omega, (decide_eq_true ((aa.CM (by omega)).2 (.inr hk.2.2))).symm⟩, by omega⟩ (fz (bN ln)) (sub (aT (kp .nil)) ao)
        ·
          refine (Q9) ?_
          obtain rfl := hk.1
          refine (Qd)<|(Q0)<|(oI)<|(Qj)<|(N1) ?_
          rintro _ _ ⟨rfl, q2, cq2, rfl⟩
          rw [aa.w9 (by omega)]
          refine (QG) ?_
          exact j4 (i + 1) _ _ false ⟨⟨by omega, (decide_eq_false (fun hx => ((aa.CM (by omega)).1 hx).elim hk.2.1 (fun h => by omega))).symm⟩, by omega⟩ (fz (bN ln)) (sub (aT (kp .nil)) ao)
      ·
        refine (Qd) ?_
        obtain rfl : i = vv.length := by omega
        rw [show (aa.dN ((aa.cQ vv d).take vv.length) d) = (aa.dN (aa.cQ vv d) d) from by rw [← aa.eL vv d, List.take_length]]
        have hbit := aa.qD (aa.cQ vv d) d
        have hbl : (aa.dN (aa.cQ vv d) d).length ≤ 2048 := by have := aa.Ji (v := vv) (d := d) (i := vv.length) (by omega) hd; rwa [show (aa.dN ((aa.cQ vv d).take vv.length) d) = (aa.dN (aa.cQ vv d) d) from by rw [← aa.eL vv d, List.take_length]] at this
        have hrow := aa.xP (n := vv.length) (by omega) hd
        have hpk : (aa.jc (aa.dN (aa.cQ vv d) d)).length ≤ 256 := by rw [aa.qT, aa.eL]; exact hrow
        have hpr : (aa.cH (aa.cQ vv d) d).length = 1 + (vv.length * d + 7) / 8 := by rw [aa.sf, aa.eL]
        have hgo : aa.nT vv tb al d := ⟨hn, hd, ⟨ht.1, ht.2, by omega⟩, hT, ⟨hA, ha⟩⟩
        have hfg := hgo.fl
        have hsz := hfg.size
        refine (Q4) ?_
        refine oV (dP (r := (vv.length : Int) / 256) rfl rfl (by decide) (af.lA (k := 8) (by decide) rfl))<|(pU)<|(Q7)<|(wU)<|(Q6)<|(pU) ?_
        refine wR (T := 5) (k := .u8) (aa.eR (vv.length : Int) (d : Int) 3) V.bK V.z5 rfl rfl rfl rfl ?_
        intro sF
        refine (Q1)<|(JD)<|(Q6)<|(JD)<|(Q6)<|(JD) ?_
        refine cM (U5) [0] V.bK V.z5 rfl rfl rfl rfl rfl rfl ?_
        intro Oj
        refine (Q6) ?_
        refine aj (Uy mR q cq (aa.dN (aa.cQ vv d) d) hbit (by omega)) V.yi  rfl (.cons bj (.cons bj .nil)) rfl ?_
        rintro _ _ ⟨po, co, rfl, rfl⟩
        refine (Wy) ?_
        intro p106 c106
        rw [show 1 + (aa.jc (aa.dN (aa.cQ vv d) d)).length = (aa.cH (aa.cQ vv d) d).length from by rw [hpr, aa.qT, aa.eL]]
        rw [show [0] ++ (aa.jc (aa.dN (aa.cQ vv d) d)) = (aa.cH (aa.cQ vv d) d) from by unfold aa.cH; rfl]
        refine wS (fun w hi => eZ hi (show Row U5 p106 (aa.cH (aa.cQ vv d) d).length c106 (aa.cH (aa.cQ vv d) d) ∈ _ by exact aA)) (fun hc106 => ?_)
        refine aj (AJ p106 c106 (aa.cH (aa.cQ vv d) d) (Row U5 p106 (aa.cH (aa.cQ vv d) d).length c106 (aa.cH (aa.cQ vv d) d)) (fun w0 h hh => ⟨hh.1, hh.2.rd⟩) (by omega) aa.sb hc106) V.IN  rfl (aq .nil) rfl ?_
        rintro _ _ ⟨qz, cz, rfl, rfl⟩
        iterate 2 refine oV (c5 V.Hr V.E3 rfl (cs := [_, _]) rfl) ?_
        refine cM (aQ) (rp (aa.eR (vv.length : Int) (d : Int) 3) sF [Ce.mk aa.aN pl cl (aa.eW tb tb.length), Ce.mk aa.aS p3 cap3 al] qz cz (aa.cP (aa.cH (aa.cQ vv d) d))) V.n5 V.E3 rfl rfl rfl (GO (Ce.mk aa.bQ (some ⟨sF, 0, none⟩) 13 (aa.eR (vv.length : Int) (d : Int) 3)) (Ce.mk aa.aN pl cl (aa.eW tb tb.length)) (Ce.mk aa.aS p3 cap3 al) (Ce.mk aa.ba qz cz (aa.cP (aa.cH (aa.cQ vv d) d))) (Ce.mk aa.aY none 0 [])) rfl rfl ?_
        intro BF
        refine (Q8) ?_
        refine bb (FV (A := DR (rp (aa.eR (vv.length : Int) (d : Int) 3) sF [Ce.mk aa.aN pl cl (aa.eW tb tb.length), Ce.mk aa.aS p3 cap3 al] qz cz (aa.cP (aa.cH (aa.cQ vv d) d)))) (.cons mF (.cons mF (.cons ay (.cons yd .nil)))) ao (fun w0 h hn hh => M9 rfl hn hh))<|(Qa) ?_
        refine aj (zG (some ⟨BF, 0, none⟩) 5 (rp (aa.eR (vv.length : Int) (d : Int) 3) sF [Ce.mk aa.aN pl cl (aa.eW tb tb.length), Ce.mk aa.aS p3 cap3 al] qz cz (aa.cP (aa.cH (aa.cQ vv d) d))) (Row aQ (some ⟨BF, 0, none⟩) 5 5 (rp (aa.eR (vv.length : Int) (d : Int) 3) sF [Ce.mk aa.aN pl cl (aa.eW tb tb.length), Ce.mk aa.aS p3 cap3 al] qz cz (aa.cP (aa.cH (aa.cQ vv d) d)))) (fun w0 h hh => ⟨hh.1, hh.2.rd⟩) (DR (rp (aa.eR (vv.length : Int) (d : Int) 3) sF [Ce.mk aa.aN pl cl (aa.eW tb tb.length), Ce.mk aa.aS p3 cap3 al] qz cz (aa.cP (aa.cH (aa.cQ vv d) d)))) (fun x hx w0 h hh => hh x hx) (show 5 ≤ 262144 by decide) (O1 hfg rfl) (by rw [wH (mid := aa.lD tb al) rfl]; omega)) V.UZ  rfl (.cons ay (aq .nil)) rfl ?_
        rintro _ _ ⟨qj, cj, rfl, rfl⟩
        rw [wH (mid := aa.lD tb al) rfl]
        refine wS (fun w hi => eZ hi (show Row U5 qj (aa.aU (aa.gr (aa.eR (vv.length : Int) (d : Int) 3) (aa.lD tb al) (aa.cP (aa.cH (aa.cQ vv d) d)))).length cj (aa.aU (aa.gr (aa.eR (vv.length : Int) (d : Int) 3) (aa.lD tb al) (aa.cP (aa.cH (aa.cQ vv d) d)))) ∈ _ by exact aA)) (fun hcj => ?_)
        refine (Qc) ?_
        rcases (Classical.em (aa.kF vv d tb.length vv.length)) with hk | hk
        ·
          refine (Q4) ?_
          refine aj (ou qj cj (aa.aU (aa.gr (aa.eR (vv.length : Int) (d : Int) 3) (aa.lD tb al) (aa.cP (aa.cH (aa.cQ vv d) d)))) (Row U5 qj (aa.aU (aa.gr (aa.eR (vv.length : Int) (d : Int) 3) (aa.lD tb al) (aa.cP (aa.cH (aa.cQ vv d) d)))).length cj (aa.aU (aa.gr (aa.eR (vv.length : Int) (d : Int) 3) (aa.lD tb al) (aa.cP (aa.cH (aa.cQ vv d) d))))) (fun w0 h hh => ⟨hh.1, hh.2.rd⟩) (by omega) hfg.oH hcj (⟨0, 0, []⟩, 4) (hgo.none hk)) V.Ix  rfl (aq .nil) rfl ?_
          rintro _ _ ⟨qd, nd, cd, rfl, hnd, hcd, rfl⟩
          refine (Qe)<|(tA) ?_
          intro kn
          refine (Ai)<|(Q3) ?_
          obtain rfl : bn = true := hbn.trans (decide_eq_true hk)
          refine (Qp)<|(I8) ?_
          rintro _ _ ⟨rfl, rfl⟩
          refine (Qk) ?_
          refine oV (cJ (da rfl rfl) rfl)<|(Qf) ?_
          refine oV (az V.rz rfl aA rfl)<|(Q0) ?_
          refine oV (jY (ty' := 0) Tryz.underlying24 rfl)<|(Q0) ?_
          refine oV (cJ (da rfl rfl) (by rw [← hnd]; rfl))<|(Q1) ?_
          exact ag (aw rfl) ⟨rfl, rfl⟩ (sub .nil Xb)
        ·
          refine (Q4) ?_
          refine aj (ou qj cj (aa.aU (aa.gr (aa.eR (vv.length : Int) (d : Int) 3) (aa.lD tb al) (aa.cP (aa.cH (aa.cQ vv d) d)))) (Row U5 qj (aa.aU (aa.gr (aa.eR (vv.length : Int) (d : Int) 3) (aa.lD tb al) (aa.cP (aa.cH (aa.cQ vv d) d)))).length cj (aa.aU (aa.gr (aa.eR (vv.length : Int) (d : Int) 3) (aa.lD tb al) (aa.cP (aa.cH (aa.cQ vv d) d))))) (fun w0 h hh => ⟨hh.1, hh.2.rd⟩) (by omega) hfg.oH hcj (⟨(vv.length : Int), 1, (aa.pP (aa.cQ vv d) (tb.map aa.gT) al)⟩, 0) (hgo.some hk)) V.Ix  rfl (aq .nil) rfl ?_
          rintro _ _ ⟨qd, nd, cd, rfl, hnd, hcd, rfl⟩
          refine (Qe)<|(tA) ?_
          intro kn
          refine (Ai)<|(Q3) ?_
          obtain rfl : bn = false := hbn.trans (decide_eq_false hk)
          have hpl2 := aa.zX vv tb al d
          have hnd2 : (aa.pP (aa.cQ vv d) (tb.map aa.gT) al).length = nd := hnd
          refine (nS)<|(Sm)<|(Qk)<|(Ql)<|(Qk)<|(Sm)<|(Qf)<|(QQ)<|(Sm)<|(Qu) ?_
          refine cB (fun (i : Nat) => [(0, .slice p1 vv.length cap1), (1, .slice p2 tb.length cap2), (2, .slice p3 al.length cap3), (3, .int .i64 (d : Int)), (19, .pointer (some ⟨kn, 0, none⟩)), (21, .int .i64 (i : Int))]) (fun (i : Nat) => Row (aD 62 .u16) qd nd cd (aa.pP (aa.cQ vv d) (tb.map aa.gT) al) :: ai kn 26 [.int .i64 (vv.length : Int), .int .i64 1, .slice qd nd cd] :: aE U5 p1 vv.length vv :: aE C3 p2 tb.length tb :: aE U5 p3 al.length al :: F) (fun (i : Nat) => i ≤ vv.length) (fun (i : Nat) => vv.length - i) (i1 (0) ?_ (jy (bN ln)) (sub (.cons ay (aq (.cons yd (.cons yd (.cons yd .nil))))) DL)) ?_
          ·
            exact Nat.zero_le _
          intro i
          rintro hi2
          refine rL TT 9 rfl ?_
          refine aF rfl (fun h150 => ?_) (fun h150 => ?_)
          ·
            refine (Qg) ?_
            have hvb := hB.get i
            have hm0 : 0 ≤ (vv.getD i 0 % 2 ^ d) := Int.emod_nonneg _ (by omega)
            have hm1 := aa.Pm hk (show i < vv.length by omega)
            refine (Q4) ?_
            refine oV (xI V.bK (by exact bG (fun _ _ h => h) dL))<|oV (xL V.s5 (by exact bG (fun _ _ h => h) dL)) ?_
            rw [show U5.g vv (i : Int) = vv.getD i 0 from rfl]
            refine (qa)<|(Q6)<|(CV)<|(IL) ?_
            refine oV (jX (r := (2 : Int) ^ d - 1) rfl rfl wI)<|(UM)<|(Qj) ?_
            refine kP (fun (av : Int) => [(0, .slice p1 vv.length cap1), (1, .slice p2 tb.length cap2), (2, .slice p3 al.length cap3), (3, .int .i64 (d : Int)), (19, .pointer (some ⟨kn, 0, none⟩)), (21, .int .i64 (i : Int)), (22, .int .i64 (vv.getD i 0 % 2 ^ d)), (23, .int .u8 av)]) (fun (av : Int) => Row (aD 62 .u16) qd nd cd (aa.pP (aa.cQ vv d) (tb.map aa.gT) al) :: ai kn 26 [.int .i64 (vv.length : Int), .int .i64 1, .slice qd nd cd] :: aE U5 p1 vv.length vv :: aE C3 p2 tb.length tb :: aE U5 p3 al.length al :: F) (fun (av : Int) => av = (aa.mG al (vv.getD i 0 % 2 ^ d))) ?_ ?_
            ·
              refine (oM) ?_
              refine aF rfl (fun h166 => ?_) (fun h166 => ?_)
              ·
                refine (Q4) ?_
                refine oV (xI V.bK (by exact bG (fun _ _ h => h) jB))<|oV (xL V.s5 (by exact bG (fun _ _ h => h) jB))<|(Q7) ?_
                refine j1 (_) ?_ (fz (bN ln)) (sub (kp .nil) ao)
                exact (aa.Ul (by omega)).symm
              ·
                refine (Q9) ?_
                refine j1 (_) ?_ (fz (bN ln)) (sub (kp .nil) ao)
                exact (aa.Uq (by omega)).symm
            ·
              intro av
              rintro hav
              refine (Qa)<|(qm)<|(Q6) ?_
              refine aj (Yf (vv.length : Int) 1 (aa.Fh (W := vv.length) (H := 1) (by omega) (by decide) (by omega)) qd nd cd (by omega) hcd (aa.pP (aa.cQ vv d) (tb.map aa.gT) al) hnd2 (Row (aD 62 .u16) qd nd cd (aa.pP (aa.cQ vv d) (tb.map aa.gT) al)) (fun w0 h hh => ⟨hh.1, hh.2.rd⟩) (i : Int) 0 (by omega) (by decide)) V.Zk  rfl (aq .nil) rfl ?_
              rintro _ _ ⟨rfl, rfl⟩
              rw [aa.Uu (by omega) rfl hm0 hm1]
              refine (Q6) ?_
              refine oV (de (v := .agg #[.int .u16 ((C3.g tb (vv.getD i 0 % 2 ^ d)).1 * 257), .int .u16 ((C3.g tb (vv.getD i 0 % 2 ^ d)).2.1 * 257), .int .u16 ((C3.g tb (vv.getD i 0 % 2 ^ d)).2.2 * 257), .int .u16 ((aa.mG al (vv.getD i 0 % 2 ^ d)) * 257)]) (dQ rfl rfl) rfl)<|oV (dQ rfl rfl)<|(ry) ?_
              intro EU
              refine (EK)<|(Q8) ?_
              have hcg : _ ∧ _ ∧ _ := aa.Ax hT ((vv.getD i 0 % 2 ^ d)).toNat
              have hxe : (C3.g tb (vv.getD i 0 % 2 ^ d)) = tb.getD ((vv.getD i 0 % 2 ^ d)).toNat (0, 0, 0) := rfl
              rw [← hxe] at hcg
              have hai : 0 ≤ av ∧ av < 256 := hav ▸ aa.Ox hA _
              refine jf [pz 0 [] [1], pz 0 [] [22], pz 3 [0, 1] [], pz 7 [2] [], pz 15 [3] [], pz 31 [4] [], pz 63 [5] [], pz 0 [] [1], pz 0 [] [22], pz 384 [7, 8] [], pz 896 [9] [], pz 1920 [10] [], pz 3968 [11] [], pz 8064 [12] [], pz 0 [] [1], pz 0 [] [22], pz 49152 [14, 15] [], pz 114688 [16] [], pz 245760 [17] [], pz 507904 [18] [], pz 1032192 [19] [], pz 0 [] [23], pz 2097152 [21] [], pz 6291456 [22] [], pz 16777215 [6, 13, 20, 23] [], pz 0 [] [], pz 67108863 [25, 24] []] [⟨fun y => ai EU 68 [.int .u16 ((C3.g tb (vv.getD i 0 % 2 ^ d)).1 * 257), .int .u16 ((C3.g tb (vv.getD i 0 % 2 ^ d)).2.1 * 257), .int .u16 ((C3.g tb (vv.getD i 0 % 2 ^ d)).2.2 * 257), .int .u16 ((aa.mG al (vv.getD i 0 % 2 ^ d)) * 257)], none, none, []⟩, ⟨fun y => Row (aD 62 .u16) qd nd cd (aa.pP (aa.cQ vv d) (tb.map aa.gT) al), none, none, []⟩, ⟨fun y => ai kn 26 [.int .i64 (vv.length : Int), .int .i64 1, .slice qd nd cd], none, none, []⟩, ⟨fun y => aE U5 p1 vv.length vv, none, none, []⟩, ⟨fun y => aE C3 p2 tb.length tb, none, none, [2, 4, 9, 11, 16, 18]⟩, ⟨fun y => aE U5 p3 al.length al, none, none, []⟩, ⟨fun y => ai (ek (y 25)) 68 [.int .u16 0, .int .u16 0, .int .u16 0, .int .u16 0], some 25, some 26, []⟩, ⟨fun y => ai (ek (y 25)) 68 [.int .u16 ((C3.g tb (vv.getD i 0 % 2 ^ d)).1 * 257), .int .u16 ((C3.g tb (vv.getD i 0 % 2 ^ d)).2.1 * 257), .int .u16 ((C3.g tb (vv.getD i 0 % 2 ^ d)).2.2 * 257), .int .u16 (av * 257)], some 26, none, []⟩] F V.mixed (by kernel_rfl) rfl (fun _ => .refl _) (aP _ (aP _ (aP _ (aP _ (aP _ (aP _ (cK _ rfl (by intro y y2 h; simp only [h 25 (.inl rfl)]) (cK _ rfl (by intro y y2 h; simp only [h 25 (.inr (by decide))]) eV)))))))) ?_
              iterate 2 refine nM ?_
              refine (sQ) ?_
              refine nV (fun y hA L => dh 0 rfl V.lL rfl rfl (by omega)) ?_
              refine (Wz) ?_
              refine (IE) ?_
              refine nV (fun y hA L => fP (r := ((C3.g tb (vv.getD i 0 % 2 ^ d)).1 * 257)) rfl rfl (aa.np (by omega))) ?_
              iterate 2 refine nM ?_
              refine (sQ) ?_
              refine nV (fun y hA L => dh 1 rfl V.lL rfl rfl (by omega)) ?_
              refine (Wb) ?_
              refine (IE) ?_
              refine nV (fun y hA L => fP (r := ((C3.g tb (vv.getD i 0 % 2 ^ d)).2.1 * 257)) rfl rfl (aa.np (by omega))) ?_
              iterate 2 refine nM ?_
              refine (sQ) ?_
              refine nV (fun y hA L => dh 2 rfl V.lL rfl rfl (by omega)) ?_
              refine (VU) ?_
              refine (IE) ?_
              refine nV (fun y hA L => fP (r := ((C3.g tb (vv.getD i 0 % 2 ^ d)).2.2 * 257)) rfl rfl (aa.np (by omega))) ?_
              refine nM ?_
              refine (IE) ?_
              refine nV (fun y hA L => fP (r := (av * 257)) rfl rfl (aa.np (by omega))) ?_
              refine nV (fun y hA L => iM V.m9 V.tt rfl (cs := [.int .u16 ((C3.g tb (vv.getD i 0 % 2 ^ d)).1 * 257), .int .u16 ((C3.g tb (vv.getD i 0 % 2 ^ d)).2.1 * 257), .int .u16 ((C3.g tb (vv.getD i 0 % 2 ^ d)).2.2 * 257), .int .u16 (av * 257)]) (by kernel_rfl)) ?_
              refine eK (fun y v => .pointer (some ⟨ek v, 0, none⟩)) (fun y v => True) _ _ (fun y v => [ai (ek v) 68 [.int .u16 0, .int .u16 0, .int .u16 0, .int .u16 0]]) _ (fun y => rfl) (fun y => rfl) (fun y => rfl) (fun y => rfl) (fun y FF hA => pO (qG V.tt)) (by intros; rfl) (by intros; rfl) (by intros; rfl) (by intro y y2 h; simp only [h 25 (.inl rfl)]) (by intro y y2 h; rfl) ?_
              refine (Yo) ?_
              refine (Qb) ?_
              intro y hA
              clear hA
              refine bg<|bD [(0, .slice p1 vv.length cap1), (1, .slice p2 tb.length cap2), (2, .slice p3 al.length cap3), (3, .int .i64 (d : Int)), (19, .pointer (some ⟨kn, 0, none⟩)), (21, .int .i64 (i : Int)), (24, .pointer (some ⟨EU, 0, none⟩)), (26, .pointer (some ⟨(ek (y 25)), 0, none⟩))] (.cons (d := 0) rfl (.cons (d := 1) rfl (.cons (d := 2) rfl (.cons (d := 3) rfl (.cons (d := 19) rfl (.cons (d := 21) rfl (.cons (d := 24) rfl (.cons (d := 26) rfl (.nil _)))))))))<|bb (M := ai EU 68 [.int .u16 ((C3.g tb (vv.getD i 0 % 2 ^ d)).1 * 257), .int .u16 ((C3.g tb (vv.getD i 0 % 2 ^ d)).2.1 * 257), .int .u16 ((C3.g tb (vv.getD i 0 % 2 ^ d)).2.2 * 257), .int .u16 ((aa.mG al (vv.getD i 0 % 2 ^ d)) * 257)] :: Row (aD 62 .u16) qd nd cd (aa.pP (aa.cQ vv d) (tb.map aa.gT) al) :: ai kn 26 [.int .i64 (vv.length : Int), .int .i64 1, .slice qd nd cd] :: aE U5 p1 vv.length vv :: aE C3 p2 tb.length tb :: aE U5 p3 al.length al :: ai (ek (y 25)) 68 [.int .u16 ((C3.g tb (vv.getD i 0 % 2 ^ d)).1 * 257), .int .u16 ((C3.g tb (vv.getD i 0 % 2 ^ d)).2.1 * 257), .int .u16 ((C3.g tb (vv.getD i 0 % 2 ^ d)).2.2 * 257), .int .u16 (av * 257)] :: F) (fun _ _ h => h) ?_
              generalize (ek (y 25)) = yi
              refine (Qa) ?_
              refine oV (dH V.kA rfl aA (vs := [_, _, _, _]) rfl rfl)<|oV (dH V.kA rfl JN (vs := [_, _, _, _]) rfl rfl)<|oV (de (v := .bool false) (TA (xs1 := [((C3.g tb (vv.getD i 0 % 2 ^ d)).1 * 257), ((C3.g tb (vv.getD i 0 % 2 ^ d)).2.1 * 257), ((C3.g tb (vv.getD i 0 % 2 ^ d)).2.2 * 257), ((aa.mG al (vv.getD i 0 % 2 ^ d)) * 257)]) (ys1 := [((C3.g tb (vv.getD i 0 % 2 ^ d)).1 * 257), ((C3.g tb (vv.getD i 0 % 2 ^ d)).2.1 * 257), ((C3.g tb (vv.getD i 0 % 2 ^ d)).2.2 * 257), (av * 257)]) (n := 4) (k := .u16) V.m9 Tryz.underlying62 V.lr (by kernel_rfl) rfl rfl rfl rfl) (by rw [hav]; simp))<|(Af) ?_
              refine j1 (i + 1) ?_ (jy (bN ln)) (sub (.cons ay (.cons ay (.cons ay (.cons ay (.cons ay .nil))))) fS)
              exact ⟨by omega, by omega⟩
          ·
            refine (Qp)<|(I8) ?_
            rintro _ _ ⟨rfl, rfl⟩
            refine (Q8) ?_
            exact ag (aw rfl) ⟨rfl, rfl⟩ (sub .nil rn)
set_option maxHeartbeats 4000000 in
theorem HE (p1 : Option Addr) (cap1 : Nat) (vv : List Int) (p2 : Option Addr) (cap2 : Nat) (tb : List (Int × Int × Int)) (p3 : Option Addr) (cap3 : Nat) (al : List Int) (kd : Int) (hkd : 0 ≤ kd ∧ kd < 256) (h1 : vv.length ≤ cap1) (h2 : tb.length ≤ cap2) (h3 : al.length ≤ cap3) (hB : af.ak vv) (hT : aa.Ay tb) (hA : af.ak al) : aC Tryz.prog 8 [.agg #[.slice p1 vv.length cap1, .slice p3 al.length cap3], .slice p2 tb.length cap2, .int .u8 kd] [aE U5 p1 vv.length vv, aE C3 p2 tb.length tb, aE U5 p3 al.length al, aE U5 p3 al.length al] (aG fun v G => v = .bool true ∧ G = []) := by
  refine au [(0, _), (1, _), (2, _)] Tryz.func8 rfl Tryz.ntmps8 rfl rfl ?_
  intro w0 F
  refine (Qr) ?_
  refine iL rfl (cs := [_, _]) rfl rfl ?_
  intro b3
  refine (Q1)<|(I8) ?_
  rintro _ _ ⟨rfl, rfl⟩
  refine (Qc)<|(rJ) ?_
  refine oR (dh 0 rfl V.Mn rfl rfl (by omega))<|(zZ) ?_
  refine oR (dh 1 rfl V.Mn rfl rfl (by omega))<|(zZ) ?_
  refine rR TT 2 rfl<|Rg.df<|bg ?_
  rcases ((by omega : (1 ≤ vv.length ∧ vv.length ≤ 200 ∧ 1 ≤ tb.length ∧ tb.length ≤ 256 ∧ al.length ≤ tb.length) ∨ (vv.length < 1) ∨ (¬ vv.length < 1 ∧ 200 < vv.length) ∨ (¬ vv.length < 1 ∧ ¬ 200 < vv.length ∧ tb.length < 1) ∨ (¬ vv.length < 1 ∧ ¬ 200 < vv.length ∧ ¬ tb.length < 1 ∧ 256 < tb.length) ∨ (¬ vv.length < 1 ∧ ¬ 200 < vv.length ∧ ¬ tb.length < 1 ∧ ¬ 256 < tb.length ∧ tb.length < al.length))) with hl | hl | hl | hl | hl | hl
  ·
    refine (Qg) ?_
    refine (QM) ?_
    refine (Qe) ?_
    refine (Q0) ?_
    refine (Qq) ?_
    refine (Q8) ?_
    refine (Q0) ?_
    refine (QM) ?_
    refine (Q8) ?_
    refine (Q0) ?_
    refine (Qq) ?_
    refine (Q1) ?_
    refine (Q0) ?_
    refine (Qq) ?_
    refine (Qc) ?_
    obtain ⟨d, hd, hdv⟩ := aa.Rz (k := kd % 4) (by omega)
    refine (Q5) ?_
    refine cM ((aD 3 .i64)) [1, 2, 4, 8] V.cA V.z3 rfl rfl rfl rfl rfl rfl ?_
    intro b43
    refine (Q6) ?_
    refine oV (kX (r := kd % 4) rfl rfl (by decide) (mX (by omega)))<|oV (qY (c := ((aD 3 .i64))) V.cA rfl rfl (own aA) (by omega) (by omega))<|oV (yT (c := ((aD 3 .i64))) V.s3 rfl (own aA) (by omega) (by omega) rfl rfl) ?_
    rw [show (aD 3 .i64).g [1, 2, 4, 8] (kd % 4) = (d : Int) from hdv]
    refine aj (CU p1 cap1 vv p2 cap2 tb p3 cap3 al d h1 h2 h3 hB hT hA (by omega) (by omega) (by omega) hd) V.YZ  rfl (.cons bj (.cons bj (.cons bj (.cons bj .nil)))) rfl ?_
    rintro _ _ ⟨rfl, rfl⟩
    refine (Q8) ?_
    exact ag (aw rfl) ⟨rfl, rfl⟩ (sub .nil fS)
  ·
    refine (Qg)<|(QO) ?_
    exact rO TT 32 rfl<|ag (aw rfl) ⟨rfl, rfl⟩ (sub .nil rn)
  ·
    refine (AO)<|(Qf)<|(Qt) ?_
    exact rO TT 28 rfl<|ag (aw rfl) ⟨rfl, rfl⟩ (sub .nil rn)
  ·
    refine (Qg) ?_
    refine (QM) ?_
    refine (Qe) ?_
    refine (Q0) ?_
    refine (Qq) ?_
    refine (Q8) ?_
    refine (Q0) ?_
    refine (QO) ?_
    refine rO TT 23 rfl ?_
    exact ag (aw rfl) ⟨rfl, rfl⟩ (sub .nil rn)
  ·
    refine (Qg) ?_
    refine (QM) ?_
    refine (Qe) ?_
    refine (Q0) ?_
    refine (Qq) ?_
    refine (Q8) ?_
    refine (Q0) ?_
    refine (QM) ?_
    refine (Q8) ?_
    refine (Q0) ?_
    refine (Qt) ?_
    refine rO TT 18 rfl ?_
    exact ag (aw rfl) ⟨rfl, rfl⟩ (sub .nil rn)
  ·
    refine (Qg) ?_
    refine (QM) ?_
    refine (Qe) ?_
    refine (Q0) ?_
    refine (Qq) ?_
    refine (Q8) ?_
    refine (Q0) ?_
    refine (QM) ?_
    refine (Q8) ?_
    refine (Q0) ?_
    refine (Qq) ?_
    refine (Q1) ?_
    refine (Q0) ?_
    refine (Qt) ?_
    refine (Qs) ?_
    exact ag (aw rfl) ⟨rfl, rfl⟩ (sub .nil rn)
end Go.Proofs.YtmaiakpjgomnpaaGreat
namespace Go.Proofs.YtmaiakpjgomnpaaGreat
open Go.Sl
abbrev uf : Td := .arr 3 5 (.int .u8)
def t3 (x : uf.Ty) : Int × Int × Int := (x.1.getD 0 0, x.1.getD 1 0, x.1.getD 2 0)
theorem XQ (x : uf.Ty) : C3.e (t3 x) = uf.cells x := by
  obtain ⟨l, hl⟩ := x
  match l, hl with
  | [a, b, c], _ => rfl
theorem AF : ∀ l : List uf.Ty, (l.map t3).flatMap C3.e = l.flatMap uf.cells
  | [] => rfl
  | x :: l => by rw [List.map_cons, List.flatMap_cons, List.flatMap_cons, AF l, XQ]
theorem HR {w : World} {x : CS uf.Ty} (h : (Td.sl 116 uf).Holds w x) : aE C3 x.p (x.l.map t3).length (x.l.map t3) w (fun _ => none) := by
  obtain ⟨_, ⟨h1, h2⟩, _⟩ := h
  refine ⟨rfl, ?_⟩
  rw [List.length_map, AF]
  exact h2
theorem Nk {w : World} {x : CS uf.Ty} (h : (Td.sl 116 uf).Holds w x) : aa.Ay (x.l.map t3) := fun t ht => by
  obtain ⟨y, hy, rfl⟩ := List.mem_map.1 ht
  have hh := h.2.2 y hy
  obtain ⟨l, hl⟩ := y
  match l, hl, hh with
  | [a, b, c], _, hh => exact ⟨lR (hh a (by simp)), lR (hh b (by simp)), lR (hh c (by simp))⟩
abbrev Vu : Td := .arr 2 22 (.sl 5 (.int .u8))
theorem Pu (x : Vu.Ty) : ∃ a b : CS Int, x.1 = [a, b] ∧ Td.val Vu x = .agg #[.slice a.p a.l.length a.cap, .slice b.p b.l.length b.cap] := by
  obtain ⟨l, hl⟩ := x
  match l, hl with
  | [a, b], _ => exact ⟨a, b, rfl, rfl⟩
end Go.Proofs.YtmaiakpjgomnpaaGreat

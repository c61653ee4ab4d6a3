/- Walks of functions that the law reaches, and what they lean on; no conditions. -/
import Derived.Test.YtmaiakpjgomnpaaGreatM0
import Derived.Test.YtmaiakpjgomnpaaGreatM4
import Derived.Test.YtmaiakpjgomnpaaGreatM2
import Derived.Test.YtmaiakpjgomnpaaGreatM1
import Derived.KernelRfl
import Derived.Test.YtmaiakpjgomnpaaGreatM6
set_option linter.unusedVariables false
set_option linter.unusedSimpArgs false
set_option maxRecDepth 100000
namespace Go.Proofs.YtmaiakpjgomnpaaGreat
open Go.Sl 
attribute [local irreducible] af.an aa.fN aa.fI aa.dr aa.fu aa.eM aa.gl aa.gf aa.first
section
variable {C : Ctx} {E : Env} {L : List ad} {ty : TypeId}
theorem oe {t u u2 T n b T' : Nat} {cs : List Value} {v2 v3 : Value} (hs : fX C.P T = some n) (h1 : E.get t = some (.pointer (some ⟨b, 0, none⟩))) (hm : ai b T' cs ∈ L) (hn : cs.length = n) (h2 : E.get u = some v2) (h3 : E.get u2 = some v3) : kp C #[.cell t T, .tmp u, .tmp u2] E L (.tuple #[.agg cs.toArray, v2, v3]) := fun fn a w hr ha hi => by
 obtain ⟨g1, g2⟩ := kQ hs w
 obtain ⟨F, hF⟩ := hi.mem hm
 have := run_loadCells_list (P := C.P) w ⟨b, 0, none⟩ cs (fun j v hj => by rw [Addr.fe, hF.gY, ← hj]; simp)
 rw [hn] at this
 simp [results, hr, ha.get _ _ h1, ha.get _ _ h2, ha.get _ _ h3, asAddr, loadVar, g1, g2, this]
end
theorem De (p : Option Addr) (c n : Nat) (L : List Int) (R : ad) (hR : ∀ w0 h, R w0 h → aE U5 p n L w0 h) (hn : L.length = n) (hB : af.an L) (h4 : 4 ≤ n) (hcap : n ≤ c) : aA Tryz.prog 112 [.slice p n c] [R] (aF fun v G => v = .int .i64 (aG.cZ L) ∧ G = [R]) := by
 subst hn; exact xR p c L R hR hB h4 hcap
theorem F5 (p : Option Addr) (c n : Nat) (L : List Int) (R : ad) (hR : ∀ w0 h, R w0 h → aE U5 p n L w0 h) (hn : L.length = n) (hB : af.an L) (p2 : Option Addr) (c2 n2 : Nat) (D : List Int) (R2 : ad) (hR2 : ∀ w0 h, R2 w0 h → aE U5 p2 n2 D w0 h) (hn2 : D.length = n2) (hD : af.an D) (t : Bool) (ht : t = decide (L = D)) : aA Tryz.prog 110 [.slice p n c, .slice p2 n2 c2] [R, R2] (aF fun v G => v = .bool t ∧ G = [R, R2]) := by
 subst hn; subst hn2; exact KO p c L R hR hB p2 c2 D R2 hR2 hD t ht
theorem Gh (bt : Nat) (kk : List Int) (hk : af.an kk) (hkl : kk.length < 500000000) (p : Option Addr) (c n : Nat) (L : List Int) (R : ad) (hR : ∀ w0 h, R w0 h → aE U5 p n L w0 h) (hn : L.length = n) (hl : n < 500000000) (hB : af.an L) : aA Tryz.prog 109 [.pointer (some ⟨bt, 0, none⟩), .string (strOfNums kk), .slice p n c] [ai bt 175 (CA [] .u32 aa.eM []), R] (aF fun v G => v = .int .u32 (aa.gf kk L) ∧ G = [ai bt 175 (CA [] .u32 aa.eM []), R]) := by
 subst hn; exact Ku bt kk hk hkl p c L R hR hl hB
theorem Hm (kk : List Int) (hk : af.an kk) (hkl : kk.length < 500000000) (p : Option Addr) (c n : Nat) (L : List Int) (R : ad) (hR : ∀ w0 h, R w0 h → aE U5 p n L w0 h) (hn : L.length = n) (hl : n < 500000000) (hB : af.an L) : aA Tryz.prog 66 [.string (strOfNums kk), .slice p n c] [R] (aF fun v G => v = .int .u32 (aa.gf kk L) ∧ G = [R]) := by
 subst hn; exact Lw kk hk hkl p c L R hR hl hB
theorem Fu (p : Option Addr) (c n : Nat) (L : List Int) (R : ad) (hR : ∀ w0 h, R w0 h → aE U5 p n L w0 h) (hn : L.length = n) (hl : n < 500000000) : aA Tryz.prog 91 [.slice p n c] [R] (aF fun v G => ∃ q cq, v = .slice q n cq ∧ G = [Row U5 q n cq L, R]) := by
 subst hn; exact np p c L R hR hl
set_option maxHeartbeats 1000000 in
theorem GM (p : Option Addr) (c : Nat) (B : List Int) (R : ad) (hR : ∀ w0 h, R w0 h → aE U5 p B.length B w0 h) (hB : af.an B) (hcap : B.length ≤ c) (p2 : Option Addr) (c2 : Nat) (D : List Int) (R2 : ad) (hR2 : ∀ w0 h, R2 w0 h → aE U5 p2 D.length D w0 h) (hD : af.an D) (hlen : D.length ≤ B.length) (t : Bool) (ht : t = decide (B.take D.length = D)) : aA Tryz.prog 77 [.slice p B.length c, .slice p2 D.length c2] [R, R2] (aF fun v G => v = .bool t ∧ G = [R, R2]) := by
 refine au [(0, _), (1, _)] Tryz.func77 rfl Tryz.ntmps77 rfl rfl ?_
 intro w0 F
 refine rT TT 11 rfl<|(QO)<|(QF) ?_
 refine oV (iH D.length _ V.bE rfl ⟨_, rfl⟩ rfl (by omega) (by omega))<|(wF) ?_
 refine aj (F5 p c D.length (B.take D.length) R (kK (cap := 0) hR D.length hlen) (by rw [List.length_take]; omega) (aa.fP hB _) p2 c2 D.length D R2 hR2 rfl hD t ht) V.XA  rfl (aO .nil) rfl ?_
 rintro _ _ ⟨rfl, rfl⟩
 refine (Q3) ?_
 exact ag (av rfl) ⟨rfl, rfl⟩ (sub (aO .nil) ak)
set_option maxHeartbeats 4000000 in
theorem zO (bt : Nat) (p : Option Addr) (c : Nat) (B : List Int) (R : ad) (hR : ∀ w0 h, R w0 h → aE U5 p B.length B w0 h) (hl : B.length < 500000000) (hB : af.an B) (hcap : B.length ≤ c) : aA Tryz.prog 79 [.slice p B.length c, .pointer (some ⟨bt, 0, none⟩)] [ai bt 175 (CA [] .u32 aa.eM []), R] (aF fun v G => (∃ e, aa.first B = .error e ∧ v = .tuple #[.agg #[.string ByteArray.empty, .slice none 0 0], .int .i64 0, .int .i64 e] ∧ G = [ai bt 175 (CA [] .u32 aa.eM []), R]) ∨ (∃ x q cq, aa.first B = .ok x ∧ v = .tuple #[.agg #[.string (strOfNums x.k), .slice q x.d.length cq], .int .i64 ((12 + x.d.length : Nat) : Int), .int .i64 0] ∧ G = [Row U5 q x.d.length cq x.d, ai bt 175 (CA [] .u32 aa.eM []), R])) := by
 refine au [(0, _), (1, _)] Tryz.func79 rfl Tryz.ntmps79 rfl rfl ?_
 intro w0 F
 refine (Qt)<|(xp) ?_
 intro b4
 refine (Q8) ?_
 rcases (aa.yl hB) with ⟨h12, hf⟩ | ⟨n, h12, hn, hnb, hbig, hf⟩ | ⟨n, h12, hn, hnb, hnm, hf⟩ | ⟨n, h12, hn, hnb, hnm, hlt, hf⟩ | ⟨n, h12, hn, hnb, hnm, hge, hsum, hf⟩ | ⟨n, h12, hn, hnb, hnm, hge, hsum, hf⟩
 ·refine (Qf)<|(QY)<|(Q3)<|(Ek)<|(qU)<|(Q1) ?_
  exact ag (oe V.oB rfl aB rfl rfl rfl) (.inl ⟨2, hf, rfl, rfl⟩) (sub (.cons ax (.cons ax .nil)) bu)
 ·refine (Qf)<|(QE)<|(Q1) ?_
  have hS : ∀ w0 h, R w0 h → aE U5 (dG p 4 c 1) (8 - 4) ((B.drop 4).take 4) w0 h := fun w0 h hh => (hR w0 h hh).sub 4 8 c (by decide) (by omega) (by omega)
  refine (CJ) ?_
  refine nM ?_
  refine (Ex) ?_
  refine nM ?_
  refine (Ct) ?_
  refine (DZ) ?_
  iterate 2 refine nA ?_
  refine (Qb) ?_
  intro y hA
  clear hA
  refine bj<|(EH)<|(DG)<|(Q4) ?_
  rw [hn]
  refine (Q9)<|(Qu)<|(Qp)<|(Ek)<|(qU)<|(Qc) ?_
  exact ag (oe V.oB rfl aB rfl rfl rfl) (.inl ⟨4, hf, rfl, rfl⟩) (sub (.cons ax (.cons ax .nil)) bu)
 ·refine (Qf)<|(QE)<|(Q1) ?_
  have hS : ∀ w0 h, R w0 h → aE U5 (dG p 4 c 1) (8 - 4) ((B.drop 4).take 4) w0 h := fun w0 h hh => (hR w0 h hh).sub 4 8 c (by decide) (by omega) (by omega)
  refine (CJ) ?_
  refine nM ?_
  refine (Ex) ?_
  refine nM ?_
  refine (Ct) ?_
  refine (DZ) ?_
  iterate 2 refine nA ?_
  refine (Qb) ?_
  intro y hA
  clear hA
  refine bj<|(EH)<|(DG)<|(Q4) ?_
  rw [hn]
  refine rC TT 2 rfl ?_
  refine oV (bS (ed rfl rfl) (by omega)) ?_
  refine rO TT 2 rfl ?_
  refine cN rfl ?_
  refine aj (lL ((B.drop 4).take 4) (aa.fP (aa.dQ hB 4) 4) (by rw [aa.jY (by omega)]; decide) false (decide_eq_false hnm).symm) V.uD  rfl .nil rfl ?_
  rintro _ _ ⟨rfl, rfl⟩
  refine (Ql)<|(Ek)<|(qU)<|(Qc) ?_
  exact ag (oe V.oB rfl aB rfl rfl rfl) (.inl ⟨4, hf, rfl, rfl⟩) (sub (.cons ax (.cons ax .nil)) bu)
 ·refine (Qf)<|(QE)<|(Q1) ?_
  have hS : ∀ w0 h, R w0 h → aE U5 (dG p 4 c 1) (8 - 4) ((B.drop 4).take 4) w0 h := fun w0 h hh => (hR w0 h hh).sub 4 8 c (by decide) (by omega) (by omega)
  refine (CJ) ?_
  refine nM ?_
  refine (Ex) ?_
  refine nM ?_
  refine (Ct) ?_
  refine (DZ) ?_
  iterate 2 refine nA ?_
  refine (Qb) ?_
  intro y hA
  clear hA
  refine bj<|(EH)<|(DG)<|(Q4) ?_
  rw [hn]
  refine (Q9) ?_
  refine (Qr) ?_
  refine (Q6) ?_
  refine (Q0) ?_
  refine (Pl) ?_
  rintro _ _ ⟨rfl, rfl⟩
  refine (xf)<|(Qu)<|(Q1)<|(Ek)<|(qU)<|(Qc) ?_
  exact ag (oe V.oB rfl aB rfl rfl rfl) (.inl ⟨2, hf, rfl, rfl⟩) (sub (.cons ax (.cons ax .nil)) bu)
 ·refine (Qf)<|(QE)<|(Q1) ?_
  have hS : ∀ w0 h, R w0 h → aE U5 (dG p 4 c 1) (8 - 4) ((B.drop 4).take 4) w0 h := fun w0 h hh => (hR w0 h hh).sub 4 8 c (by decide) (by omega) (by omega)
  refine (CJ) ?_
  refine nM ?_
  refine (Ex) ?_
  refine nM ?_
  refine (Ct) ?_
  refine (DZ) ?_
  iterate 2 refine nA ?_
  refine (Qb) ?_
  intro y hA
  clear hA
  refine bj<|(EH)<|(DG)<|(Q4) ?_
  rw [hn]
  refine (Q9) ?_
  refine (Qr) ?_
  refine (Q6) ?_
  refine (Q0) ?_
  refine (Pl) ?_
  rintro _ _ ⟨rfl, rfl⟩
  refine (xf)<|(Qr)<|(Ql) ?_
  have hk4 := aa.fP (aa.dQ hB 4) 4
  have Av := aa.fP (aa.dQ hB 8) n
  have hb8 := aa.dQ hB (8 + n)
  have hn4 := aa.uF hb8
  have hX8 : ∀ w0 h, R w0 h → aE U5 (dG p 8 c 1) (8 + n - 8) ((B.drop 8).take n) w0 h := fun w0 h hh => by have h1 := (hR w0 h hh).sub 8 (8 + n) c (by omega) (by omega) (by omega); rwa [Nat.add_sub_cancel_left] at h1 ⊢
  have hXn : ∀ w0 h, R w0 h → aE U5 (dG p (8 + n) c 1) (B.length - (8 + n)) (B.drop (8 + n)) w0 h := fun w0 h hh => fQ (c := U5) hR rfl (8 + n) c (by omega) hcap w0 h hh
  refine (Q4)<|(IX)<|(VR)<|(Ql)<|(IX)<|(V3)<|(V0) ?_
  rintro _ _ ⟨rfl, rfl⟩
  refine (VQ)<|(VL) ?_
  rintro _ _ ⟨rfl, rfl⟩
  refine oV (bS (cG rfl rfl) (fun h => h hsum))<|(Qn) ?_
  refine aj (Fu (dG p 8 c 1) (c - 8) (8 + n - 8) ((B.drop 8).take n) R hX8 (by rw [aa.jY (by omega)]; omega) (by omega)) V.zV  rfl (.cons ax .nil) rfl ?_
  rintro _ _ ⟨q53, c53, rfl, rfl⟩
  refine oV (cR V.R3 V.Cl rfl (cs := [.string (strOfNums ((B.drop 4).take 4)), .slice q53 (8 + n - 8) c53]) rfl)<|(Q7) ?_
  refine oV (cW (v := .int .i64 ((12 + n : Nat) : Int)) (ei rfl rfl wI) (by congr 1))<|cA (bd V.oB rfl rfl (us := [_, _]) rfl rfl (by exact HH) (by exact Nat.le_of_ble_eq_true rfl) rfl)<|(Q3) ?_
  have hdl := aa.jY (l := B) (i := 8) (n := n) (by omega)
  have e8 : 8 + n - 8 = ((B.drop 8).take n).length := by rw [hdl]; omega
  rw [e8, show (12 + n : Nat) = 12 + ((B.drop 8).take n).length from by rw [hdl]]
  exact ag (oe V.oB rfl gq rfl rfl rfl) (.inr ⟨_, _, _, hf, rfl, rfl⟩) (sub (ao (.cons ax (.cons dj .nil))) bu)
 ·refine (Qf)<|(QE)<|(Q1) ?_
  have hS : ∀ w0 h, R w0 h → aE U5 (dG p 4 c 1) (8 - 4) ((B.drop 4).take 4) w0 h := fun w0 h hh => (hR w0 h hh).sub 4 8 c (by decide) (by omega) (by omega)
  refine (CJ) ?_
  refine nM ?_
  refine (Ex) ?_
  refine nM ?_
  refine (Ct) ?_
  refine (DZ) ?_
  iterate 2 refine nA ?_
  refine (Qb) ?_
  intro y hA
  clear hA
  refine bj<|(EH)<|(DG)<|(Q4) ?_
  rw [hn]
  refine (Q9) ?_
  refine (Qr) ?_
  refine (Q6) ?_
  refine (Q0) ?_
  refine (Pl) ?_
  rintro _ _ ⟨rfl, rfl⟩
  refine (xf)<|(Qr)<|(Ql) ?_
  have hk4 := aa.fP (aa.dQ hB 4) 4
  have Av := aa.fP (aa.dQ hB 8) n
  have hb8 := aa.dQ hB (8 + n)
  have hn4 := aa.uF hb8
  have hX8 : ∀ w0 h, R w0 h → aE U5 (dG p 8 c 1) (8 + n - 8) ((B.drop 8).take n) w0 h := fun w0 h hh => by have h1 := (hR w0 h hh).sub 8 (8 + n) c (by omega) (by omega) (by omega); rwa [Nat.add_sub_cancel_left] at h1 ⊢
  have hXn : ∀ w0 h, R w0 h → aE U5 (dG p (8 + n) c 1) (B.length - (8 + n)) (B.drop (8 + n)) w0 h := fun w0 h hh => fQ (c := U5) hR rfl (8 + n) c (by omega) hcap w0 h hh
  refine (Q4)<|(IX)<|(VR)<|(Ql)<|(IX)<|(V3)<|(V0) ?_
  rintro _ _ ⟨rfl, rfl⟩
  refine (VQ)<|(VL) ?_
  rintro _ _ ⟨rfl, rfl⟩
  refine oV (c9 (cG rfl rfl) hsum)<|(Q3)<|(Ek) ?_
  refine cA (bd V.oB rfl rfl (us := [_, _]) rfl rfl (by exact wD) (by exact Nat.le_of_ble_eq_true rfl) rfl)<|(Q1) ?_
  exact ag (oe V.oB rfl dJ rfl rfl rfl) (.inl ⟨5, hf, rfl, rfl⟩) (sub (aO .nil) bu)
end Go.Proofs.YtmaiakpjgomnpaaGreat
namespace Go.Proofs.YtmaiakpjgomnpaaGreat
open Go.Sl
theorem V.Yu : ay Tryz.prog 76 = true := by kernel_rfl
theorem V.V2 : ay Tryz.prog 77 = true := by kernel_rfl
theorem V.YC : ay Tryz.prog 78 = true := by kernel_rfl
theorem V.Wt : ay Tryz.prog 79 = true := by kernel_rfl
theorem V.S5 : a8 Tryz.prog 88 0 = some 0 := by kernel_rfl
theorem V.s9 : cg Tryz.prog 9 = true := by kernel_rfl
theorem V.ru : sliceB Tryz.prog 84 = some (88, 2, 40) := by kernel_rfl
end Go.Proofs.YtmaiakpjgomnpaaGreat
namespace Go.Proofs.YtmaiakpjgomnpaaGreat
open Go.Sl 
attribute [local irreducible] af.an aa.fN aa.fI aa.dr aa.fu aa.eM aa.gl aa.gf aa.first aa.cut aa.fy aa.ea aa.aY
structure Ce where
 k : List Int
 p : Option Addr
 c : Nat
 d : List Int
def Ce.ch (x : Ce) : aa.Ch := ⟨x.k, x.d⟩
def RX (x : Ce) : Option Addr × List Int := (x.p, x.d)
abbrev CK : Ec Ce := ⟨88, 2, fun x => [.string (strOfNums x.k), .slice x.p x.d.length x.c], ⟨[], none, 0, []⟩, fun _ => rfl, fun _ => rfl⟩
abbrev DK (l : List Ce) : ad := Fm U5 RX l
def Ay (x : Ce) : Prop := x.d.length ≤ x.c
theorem Az {es : List Ce} {x : Ce} (h : ∀ y ∈ es, Ay y) (hx : x.d.length ≤ x.c) : ∀ y ∈ es ++ [x], Ay y := fun y hy => (List.mem_append.1 hy).elim (h y) (fun e => List.mem_singleton.1 e ▸ hx)
theorem F2 (bt : Nat) (p : Option Addr) (c n : Nat) (L : List Int) (R : ad) (hR : ∀ w0 h, R w0 h → aE U5 p n L w0 h) (hn : L.length = n) (hl : n < 500000000) (hB : af.an L) (hcap : n ≤ c) (e : Int) (hf : aa.first L = .error e) : aA Tryz.prog 79 [.slice p n c, .pointer (some ⟨bt, 0, none⟩)] [ai bt 175 (CA [] .u32 aa.eM []), R] (aF fun v G => v = .tuple #[.agg #[.string ByteArray.empty, .slice none 0 0], .int .i64 0, .int .i64 e] ∧ G = [ai bt 175 (CA [] .u32 aa.eM []), R]) := by
 subst hn
 refine (zO bt p c L R hR hl hB hcap).mono ?_
 rintro e2 G ⟨v, rfl, (⟨e', h, rfl, rfl⟩ | ⟨x, q, cq, h, _, _⟩)⟩
 ·rw [hf] at h; cases h; exact ⟨_, rfl, rfl, rfl⟩
 ·rw [hf] at h; cases h
theorem FW (bt : Nat) (p : Option Addr) (c n : Nat) (L : List Int) (R : ad) (hR : ∀ w0 h, R w0 h → aE U5 p n L w0 h) (hn : L.length = n) (hl : n < 500000000) (hB : af.an L) (hcap : n ≤ c) (x : aa.Ch) (hf : aa.first L = .ok x) : aA Tryz.prog 79 [.slice p n c, .pointer (some ⟨bt, 0, none⟩)] [ai bt 175 (CA [] .u32 aa.eM []), R] (aF fun v G => ∃ q cq, v = .tuple #[.agg #[.string (strOfNums x.k), .slice q x.d.length cq], .int .i64 ((12 + x.d.length : Nat) : Int), .int .i64 0] ∧ G = [Row U5 q x.d.length cq x.d, ai bt 175 (CA [] .u32 aa.eM []), R]) := by
 subst hn
 refine (zO bt p c L R hR hl hB hcap).mono ?_
 rintro e2 G ⟨v, rfl, (⟨e', h, _, _⟩ | ⟨x', q, cq, h, rfl, rfl⟩)⟩
 ·rw [hf] at h; cases h
 ·rw [hf] at h; cases h; exact ⟨_, rfl, q, cq, rfl, rfl⟩
theorem vl (p : Option Addr) (c n : Nat) (L : List Int) (R : ad) (hR : ∀ w0 h, R w0 h → aE U5 p n L w0 h) (hn : L.length = n) (hB : af.an L) (hcap : n ≤ c) (p2 : Option Addr) (c2 n2 : Nat) (D : List Int) (R2 : ad) (hR2 : ∀ w0 h, R2 w0 h → aE U5 p2 n2 D w0 h) (hn2 : D.length = n2) (hD : af.an D) (hlen : n2 ≤ n) (t : Bool) (ht : t = decide (L.take n2 = D)) : aA Tryz.prog 77 [.slice p n c, .slice p2 n2 c2] [R, R2] (aF fun v G => v = .bool t ∧ G = [R, R2]) := by
 subst hn; subst hn2; exact GM p c L R hR hB hcap p2 c2 D R2 hR2 hD hlen t ht
set_option maxHeartbeats 8000000 in
theorem IS (p : Option Addr) (c : Nat) (B : List Int) (R : ad) (hR : ∀ w0 h, R w0 h → aE U5 p B.length B w0 h) (hl : B.length < 500000000) (hB : af.an B) (hcap : B.length ≤ c) : aA Tryz.prog 37 [.slice p B.length c] [R] (aF fun v G => (∃ e, aa.cut B = .error e ∧ v = .tuple #[.slice none 0 0, .int .i64 e] ∧ G = [R]) ∨ (∃ q cq, ∃ es : List Ce, aa.cut B = .ok (es.map Ce.ch) ∧ es.length ≤ 262144 ∧ (∀ y ∈ es, Ay y) ∧ v = .tuple #[.slice q es.length cq, .int .i64 0] ∧ G = [Row CK q es.length cq es, DK es, R])) := by
 refine au [(0, _)] Tryz.func37 rfl Tryz.ntmps37 rfl rfl ?_
 intro w0 F
 refine (QH) ?_
 refine aj (MR) V.Yu  rfl .nil rfl ?_
 rintro _ _ ⟨b10, rfl, rfl⟩
 refine (Q3) ?_
 rcases (aa.RA B) with ⟨h1, hc⟩ | ⟨h1, hc⟩ | ⟨h1, h2, hsg, hc⟩ | ⟨h1, h2, hsg, hc⟩
 ·refine (Q5)<|(Qu)<|(Qq) ?_
  exact ag (ev rfl rfl) (.inl ⟨3, hc, rfl, rfl⟩) (sub (.cons ax .nil) bu)
 ·refine (Q5)<|(Qr)<|(Qe)<|(QY)<|(Qq) ?_
  exact ag (ev rfl rfl) (.inl ⟨2, hc, rfl, rfl⟩) (sub (.cons ax .nil) bu)
 ·refine rC TT 4 rfl ?_
  refine oV (bS (ed rfl rfl) (by omega)) ?_
  refine rO TT 10 rfl ?_
  refine oV (bS (dR rfl rfl) (by omega)) ?_
  refine rO TT 8 rfl ?_
  refine aj (vl p c B.length B R hR rfl hB hcap (some ⟨b10, 0, none⟩) 8 8 aa.ea (Row U5 (some ⟨b10, 0, none⟩) 8 8 aa.ea) (fun _ _ hh => hh.rd) aa.ym aa.rJ (by omega) false (decide_eq_false hsg).symm) V.V2  rfl (.cons ax (ao .nil)) rfl ?_
  rintro _ _ ⟨rfl, rfl⟩
  refine (QK) ?_
  exact ag (ev rfl rfl) (.inl ⟨4, hc, rfl, rfl⟩) (sub (ao .nil) bu)
 ·refine rC TT 4 rfl ?_
  refine oV (bS (ed rfl rfl) (by omega)) ?_
  refine rO TT 10 rfl ?_
  refine oV (bS (dR rfl rfl) (by omega)) ?_
  refine rO TT 8 rfl ?_
  refine aj (vl p c B.length B R hR rfl hB hcap (some ⟨b10, 0, none⟩) 8 8 aa.ea (Row U5 (some ⟨b10, 0, none⟩) 8 8 aa.ea) (fun _ _ hh => hh.rd) aa.ym aa.rJ (by omega) true (decide_eq_true hsg).symm) V.V2  rfl (.cons ax (ao .nil)) rfl ?_
  rintro _ _ ⟨rfl, rfl⟩
  refine (Qe) ?_
  refine aj (TN) V.YC  rfl .nil rfl ?_
  rintro _ _ ⟨An, rfl, rfl⟩
  refine (Qq) ?_
  refine oV (eh 8 B.length c V.bE rfl ⟨_, rfl⟩ ⟨rfl, rfl⟩ rfl (by omega) (by omega) (by omega))<|(Q8) ?_
  refine iP (DK []) (Ag _ _ _ _)<|iP (Row CK none 0 0 []) (Row.nil _ _ _) ?_
  rw [show B.length - 8 = (B.drop 8).length from List.length_drop.symm]
  refine zL (fun (f : Nat) (pz : Option Addr) (cz : Nat) (Z : List Int) (pl : Option Addr) (cl : Nat) (es : List Ce) => [(0, .slice pz Z.length cz), (5, .pointer (some ⟨An, 0, none⟩)), (6, .slice pl es.length cl)]) (fun (f : Nat) (pz : Option Addr) (cz : Nat) (Z : List Int) (pl : Option Addr) (cl : Nat) (es : List Ce) => Row CK pl es.length cl es :: DK es :: ai An 175 (CA [] .u32 aa.eM []) :: R :: F) (fun (f : Nat) (pz : Option Addr) (cz : Nat) (Z : List Int) (pl : Option Addr) (cl : Nat) (es : List Ce) => aa.fy f Z (es.map Ce.ch) = aa.cut B ∧ Z.length < f ∧ (∀ w0 h, R w0 h → aE U5 pz Z.length Z w0 h) ∧ Z.length ≤ cz ∧ af.an Z ∧ es.length + Z.length ≤ 262144 ∧ (∀ y ∈ es, Ay y)) (fun (f : Nat) (pz : Option Addr) (cz : Nat) (Z : List Int) (pl : Option Addr) (cl : Nat) (es : List Ce) => f) (i7 ((B.length + 1)) ((dG p 8 c 1)) ((c - 8)) ((B.drop 8)) (none) (0) ([]) ?_ (gL ln) (sub (mf .nil) bu)) ?_
  ·exact ⟨hc, by rw [List.length_drop]; omega, by rw [List.length_drop]; exact fQ (c := U5) hR rfl 8 c (by omega) hcap, by rw [List.length_drop]; omega, aa.dQ hB 8, by rw [List.length_drop]; show 0 + _ ≤ _; omega, fun y hy => by cases hy⟩
  intro f pz cz Z pl cl es
  rintro ⟨hcut, hZf, hZR, hZc, hZB, hes, hco⟩
  obtain ⟨f, rfl⟩ : ∃ g, f = g + 1 := ⟨f - 1, by omega⟩
  refine rL TT 1 rfl ?_
  rcases (aa.XI hZB) with ⟨e, hf, he⟩ | ⟨x, hf, hxl, hxn, hxB, hk⟩ | ⟨x, hf, hxl, hxn, hxB, hk⟩ | ⟨x, hf, hxl, hxn, hxB, hk⟩
  ·refine (Q5) ?_
   refine aj (F2 An pz cz Z.length Z R hZR rfl (by omega) hZB hZc e hf) V.Wt  rfl (.cons bo (.cons bo .nil)) rfl ?_
   rintro _ _ ⟨rfl, rfl⟩
   refine (Q8)<|(xp) ?_
   intro b7
   refine (qU)<|(Ql) ?_
   refine oV (c9 (cG rfl rfl) he)<|(QM) ?_
   rw [aa.Mg hf] at hcut
   exact ag (ev rfl rfl) (.inl ⟨e, hcut.symm, rfl, rfl⟩) (sub (.cons bo .nil) kv)
  ·refine (Q5)<|(No) ?_
   rintro _ _ ⟨q35, c35, rfl, rfl⟩
   refine (Q8)<|(xp) ?_
   intro b7
   refine (qU)<|(Ql)<|(M1)<|(Qn)<|(Pa)<|(Q1)<|(E9)<|(RP) ?_
   intro b46
   refine (LV) ?_
   intro p47 c47
   refine (Q3) ?_
   refine gu (fun w hi => eX hi (show Row U5 q35 x.d.length c35 x.d ∈ _ by exact gq)) (fun hcx => ?_)
   refine (Og)<|(Q9) ?_
   refine oV (az V.s9 rfl gq rfl)<|oV (cW (v := .bool true) (mG (r := false) (tq (aa.bp (aa.qA hxn)) (aa.bp aa.wP) hk) rfl (show aq _ _ = some (.string (strOfNums aa.aY)) by unfold aa.aY; rfl)) rfl)<|(Q1) ?_
   have hdl : (Z.drop (12 + x.d.length)).length = Z.length - (12 + x.d.length) := List.length_drop
   have hel : (es ++ [(Ce.mk x.k q35 c35 x.d)]).length = es.length + 1 := by rw [List.length_append]; rfl
   rw [aa.Nf hf hk, show es.map Ce.ch ++ [x] = (es ++ [(Ce.mk x.k q35 c35 x.d)]).map Ce.ch from by rw [List.map_append]; rfl] at hcut
   rw [← hdl, ← hel]
   exact j7 f _ _ (Z.drop (12 + x.d.length)) _ _ (es ++ [(Ce.mk x.k q35 c35 x.d)]) ⟨⟨hcut, by omega, by rw [hdl]; exact fQ (c := U5) hZR rfl (12 + x.d.length) cz (by omega) hZc, by omega, aa.dQ hZB _, by omega, Az hco hcx⟩, by omega⟩ (.cons rfl (.cons rfl (.cons rfl (.nil _)))) (sub (.cons ax (.cons dj (.cons bo (.cons bo .nil)))) fV)
  ·refine (Q5)<|(No) ?_
   rintro _ _ ⟨q35, c35, rfl, rfl⟩
   refine (Q8)<|(xp) ?_
   intro b7
   refine (qU)<|(Ql)<|(M1)<|(Qn)<|(Pa)<|(Q1)<|(E9)<|(RP) ?_
   intro b46
   refine (LV) ?_
   intro p47 c47
   refine (Q3) ?_
   refine gu (fun w hi => eX hi (show Row U5 q35 x.d.length c35 x.d ∈ _ by exact gq)) (fun hcx => ?_)
   refine (Og)<|(Q9) ?_
   refine oV (az V.s9 rfl gq rfl)<|(Ux)<|(Qe)<|(Qr) ?_
   refine rO TT 16 rfl ?_
   have hel : (es ++ [(Ce.mk x.k q35 c35 x.d)]).length = es.length + 1 := by rw [List.length_append]; rfl
   rw [aa.MT hf hk hxl, show es.map Ce.ch ++ [x] = (es ++ [(Ce.mk x.k q35 c35 x.d)]).map Ce.ch from by rw [List.map_append]; rfl] at hcut
   rw [← hel]
   exact ag (ev rfl rfl) (.inr ⟨_, _, _, hcut.symm, by omega, Az hco hcx, rfl, rfl⟩) (sub (.cons ax (ao (.cons dk .nil))) ny)
  ·refine (Q5)<|(No) ?_
   rintro _ _ ⟨q35, c35, rfl, rfl⟩
   refine (Q8)<|(xp) ?_
   intro b7
   refine (qU)<|(Ql)<|(M1)<|(Qn)<|(Pa)<|(Q1)<|(E9)<|(RP) ?_
   intro b46
   refine (LV) ?_
   intro p47 c47
   refine (Q3) ?_
   refine gu (fun w hi => eX hi (show Row U5 q35 x.d.length c35 x.d ∈ _ by exact gq)) (fun hcx => ?_)
   refine (Og)<|(Q9) ?_
   refine oV (az V.s9 rfl gq rfl)<|(Ux)<|(Qe)<|(Qu)<|(QK) ?_
   rw [aa.My hf hk hxl] at hcut
   exact ag (ev rfl rfl) (.inl ⟨4, hcut.symm, rfl, rfl⟩) (sub (.cons jF .nil) I0)
end Go.Proofs.YtmaiakpjgomnpaaGreat
namespace Go.Proofs.YtmaiakpjgomnpaaGreat
open Go.Sl
theorem V.P3 : ay Tryz.prog 113 = true := by kernel_rfl
theorem V.P0 : ay Tryz.prog 114 = true := by kernel_rfl
theorem V.Ym : a8 Tryz.prog 137 0 = some 0 := by kernel_rfl
theorem V.YO : a8 Tryz.prog 137 1 = some 1 := by kernel_rfl
theorem V.YV : a8 Tryz.prog 137 2 = some 2 := by kernel_rfl
theorem V.YI : a8 Tryz.prog 137 3 = some 3 := by kernel_rfl
end Go.Proofs.YtmaiakpjgomnpaaGreat
namespace Go.Proofs.YtmaiakpjgomnpaaGreat
open Go.Sl 
attribute [local irreducible] af.an aa.fN aa.fI aa.dr aa.fu aa.eM aa.gl aa.aZ aa.aT aa.aQ aa.aY aa.bR aa.fM aa.df
set_option maxHeartbeats 1000000 in
theorem Db (kk : List Int) (hk : af.an kk) (hkl : kk.length < 500000000) (t : Bool) (ht : t = decide (aa.fM kk)) : aA Tryz.prog 114 [.string (strOfNums kk)] [] (aF fun v G => v = .bool t ∧ G = []) := by
 refine au [(0, _)] Tryz.func114 rfl Tryz.ntmps114 rfl rfl ?_
 intro w0 F
 refine (QP) ?_
 rcases (Classical.em (aa.df kk)) with hnm | hnm
 ·refine (Q4) ?_
  refine aj (lL kk hk (by omega) true (decide_eq_true hnm).symm) V.uD  rfl .nil rfl ?_
  rintro _ _ ⟨rfl, rfl⟩
  refine (Qj) ?_
  refine oV (zC 0 Tryz.underlying9 rfl rfl (aa.bp hk) rfl (by have := aa.ze hnm; omega))<|(Q1) ?_
  (rw [show decide (kk.getD 0 0 ≤ 90) = t from (aa.O2 ht hnm).symm]; exact ag (G := []) (av rfl) ⟨rfl, rfl⟩ (sub .nil ak))
 ·refine (Q4) ?_
  refine aj (lL kk hk (by omega) false (decide_eq_false hnm).symm) V.uD  rfl .nil rfl ?_
  rintro _ _ ⟨rfl, rfl⟩
  refine (Qn) ?_
  (obtain rfl : t = false := aa.Oo ht hnm; exact ag (G := []) (av rfl) ⟨rfl, rfl⟩ (sub .nil ak))
set_option maxHeartbeats 1000000 in
theorem Ld (b : Nat) (pl tr id_ ov : Bool) : aA Tryz.prog 113 [.pointer (some ⟨b, 0, none⟩), .pointer (some ⟨b, 0, none⟩)] [ai b 137 [.bool pl, .bool tr, .bool id_, .bool ov]] (aF fun v G => v = .bool (!pl && !id_) ∧ G = [ai b 137 [.bool true, .bool tr, .bool id_, .bool ov]]) := by
 refine au [(0, _), (1, _)] Tryz.func113 rfl Tryz.ntmps113 rfl rfl ?_
 intro w0 F
 refine (QP) ?_
 rcases ((by cases pl; exact .inl rfl; exact .inr rfl : pl = false ∨ pl = true)) with rfl | rfl
 ·refine (Q5)<|(nf)<|(QZ)<|(nf)<|(Q0) ?_
  refine oV (lG rfl)<|(Ql)<|(Ak)<|(Qn) ?_
  exact ag (av rfl) ⟨rfl, rfl⟩ (sub (ao .nil) ak)
 ·refine (Q5)<|(nf)<|(QM)<|(Ak)<|(Qn) ?_
  exact ag (av rfl) ⟨rfl, rfl⟩ (sub (ao .nil) ak)
set_option maxHeartbeats 1000000 in
theorem Lo (b : Nat) (pl tr id_ ov : Bool) : aA Tryz.prog 113 [.pointer (some ⟨b, 0, none⟩), .pointer (some ⟨b, 1, none⟩)] [ai b 137 [.bool pl, .bool tr, .bool id_, .bool ov]] (aF fun v G => v = .bool (!tr && !id_) ∧ G = [ai b 137 [.bool pl, .bool true, .bool id_, .bool ov]]) := by
 refine au [(0, _), (1, _)] Tryz.func113 rfl Tryz.ntmps113 rfl rfl ?_
 intro w0 F
 refine (QP) ?_
 rcases ((by cases tr; exact .inl rfl; exact .inr rfl : tr = false ∨ tr = true)) with rfl | rfl
 ·refine (Q5)<|(nf)<|(QZ)<|(nf)<|(Q0) ?_
  refine oV (lG rfl)<|(Ql)<|(Ak)<|(Qn) ?_
  exact ag (av rfl) ⟨rfl, rfl⟩ (sub (ao .nil) ak)
 ·refine (Q5)<|(nf)<|(QM)<|(Ak)<|(Qn) ?_
  exact ag (av rfl) ⟨rfl, rfl⟩ (sub (ao .nil) ak)
set_option maxHeartbeats 4000000 in
theorem Pu (b : Nat) (pl tr id_ ov : Bool) (x : Ce) (hxk : af.an x.k) (hxl : x.k.length < 500000000) : aA Tryz.prog 80 [.pointer (some ⟨b, 0, none⟩), .agg #[.string (strOfNums x.k), .slice x.p x.d.length x.c]] [ai b 137 [.bool pl, .bool tr, .bool id_, .bool ov]] (aF fun v G => v = .bool (aa.bT ⟨pl, tr, id_, ov⟩ x.ch).2 ∧ G = [ai b 137 [.bool (aa.bT ⟨pl, tr, id_, ov⟩ x.ch).1.plte, .bool (aa.bT ⟨pl, tr, id_, ov⟩ x.ch).1.trns, .bool (aa.bT ⟨pl, tr, id_, ov⟩ x.ch).1.bW, .bool (aa.bT ⟨pl, tr, id_, ov⟩ x.ch).1.j0]]) := by
 refine au [(0, _), (1, _)] Tryz.func80 rfl Tryz.ntmps80 rfl rfl ?_
 intro w0 F
 refine (Qt) ?_
 refine iI rfl (cs := [_, _]) rfl rfl ?_
 intro b3
 refine (Qg) ?_
 rcases (aa.SB x.k tr) with h1 | ⟨h1, h2, rfl⟩ | ⟨h1, h2, rfl⟩ | ⟨h1, h2, h3⟩ | ⟨h1, h2, h3, h4⟩ | ⟨h1, h2, h3, h4, h5⟩ | ⟨h1, h2, h3, h4, h5⟩
 ·refine (Q5)<|(nt) ?_
  refine oV (jf (aa.bp hxk) (aa.bp aa.qF) rfl (show aq _ _ = some (.string (strOfNums aa.aZ)) by unfold aa.aZ; rfl) (decide_eq_true h1).symm)<|(Ql)<|(vo)<|(Qc)<|(qV) ?_
  refine oV (lG rfl)<|(Q3) ?_
  exact ag (av rfl) (by rw [show (aa.bT ⟨pl, tr, id_, ov⟩ x.ch) = _ from aa.Xp h1]; exact ⟨rfl, rfl⟩) (sub (.cons ax .nil) bu)
 ·refine (Q5)<|(nt)<|(As)<|(Qp)<|(qV)<|(Q6)<|(vo)<|(Q1)<|(rh)<|(VU)<|(Qn)<|(qV)<|(QK) ?_
  (exact ag (G := [ai b 137 [.bool pl, .bool true, .bool id_, .bool id_]]) (av rfl) (by rw [show (aa.bT ⟨pl, true, id_, ov⟩ x.ch) = _ from aa.T0 h1 h2]; exact ⟨rfl, rfl⟩) (sub (.cons ax .nil) bu))
 ·refine (Q5)<|(nt)<|(As)<|(Qp)<|(qV)<|(Q6)<|(vo)<|(Q1)<|(rh)<|(VU)<|(Qn)<|(qV)<|(Q1)<|(Q0) ?_
  refine aj (Ld b pl false id_ id_) V.P3  rfl (.cons ax .nil) rfl ?_
  rintro _ _ ⟨rfl, rfl⟩
  refine (Qc) ?_
  (exact ag (G := [ai b 137 [.bool true, .bool false, .bool id_, .bool id_]]) (av rfl) (by rw [show (aa.bT ⟨pl, false, id_, ov⟩ x.ch) = _ from aa.S6 h1 h2]; exact ⟨rfl, rfl⟩) (sub (ao .nil) bu))
 ·refine (Q5)<|(nt)<|(As)<|(Qp)<|(qV)<|(Q6)<|(vo)<|(Q1)<|(rh)<|(HS)<|(Q1) ?_
  refine oV (jf (aa.bp hxk) (aa.bp aa.qp) rfl (show aq _ _ = some (.string (strOfNums aa.aQ)) by unfold aa.aQ; rfl) (decide_eq_true h3).symm)<|(Qe) ?_
  refine aj (Lo b pl tr id_ id_) V.P3  rfl (.cons ax .nil) rfl ?_
  rintro _ _ ⟨rfl, rfl⟩
  refine (Q1) ?_
  exact ag (av rfl) (by rw [show (aa.bT ⟨pl, tr, id_, ov⟩ x.ch) = _ from aa.W8 h1 h2 h3]; exact ⟨rfl, rfl⟩) (sub (ao .nil) bu)
 ·refine (Q5)<|(nt)<|(As)<|(Qp)<|(qV)<|(Q6)<|(vo)<|(Q1)<|(rh)<|(HS)<|(Q1)<|(MW)<|(Qe)<|(nt) ?_
  refine aj (lL x.k hxk (by omega) false (decide_eq_false h4).symm) V.uD  rfl .nil rfl ?_
  rintro _ _ ⟨rfl, rfl⟩
  refine (Qe) ?_
  (exact ag (G := [ai b 137 [.bool pl, .bool tr, .bool id_, .bool id_]]) (av rfl) (by rw [show (aa.bT ⟨pl, tr, id_, ov⟩ x.ch) = _ from aa.Hb (r := false) h1 h2 h3 (aa.Xb h4)]; exact ⟨rfl, rfl⟩) (sub (.cons ax .nil) bu))
 ·refine (Q5)<|(nt)<|(As)<|(Qp)<|(qV)<|(Q6)<|(vo)<|(Q1)<|(rh)<|(HS)<|(Q1)<|(MW)<|(Qe)<|(nt)<|(U8) ?_
  rintro _ _ ⟨rfl, rfl⟩
  refine (Qj)<|(nt)<|(Q0) ?_
  refine aj (Db x.k hxk (by omega) true (decide_eq_true h5).symm) V.P0  rfl .nil rfl ?_
  rintro _ _ ⟨rfl, rfl⟩
  refine (Q1) ?_
  (exact ag (G := [ai b 137 [.bool pl, .bool tr, .bool id_, .bool id_]]) (av rfl) (by rw [show (aa.bT ⟨pl, tr, id_, ov⟩ x.ch) = _ from aa.Hb (r := false) h1 h2 h3 (aa.Wz h5)]; exact ⟨rfl, rfl⟩) (sub (.cons ax .nil) bu))
 ·refine (Q5)<|(nt)<|(As)<|(Qp)<|(qV)<|(Q6)<|(vo)<|(Q1)<|(rh)<|(HS)<|(Q1)<|(MW)<|(Qe)<|(nt)<|(U8) ?_
  rintro _ _ ⟨rfl, rfl⟩
  refine (Qj)<|(nt)<|(Q0) ?_
  refine aj (Db x.k hxk (by omega) false (decide_eq_false h5).symm) V.P0  rfl .nil rfl ?_
  rintro _ _ ⟨rfl, rfl⟩
  refine (Q1) ?_
  (exact ag (G := [ai b 137 [.bool pl, .bool tr, .bool id_, .bool id_]]) (av rfl) (by rw [show (aa.bT ⟨pl, tr, id_, ov⟩ x.ch) = _ from aa.Hb (r := true) h1 h2 h3 (aa.W4 h4 h5)]; exact ⟨rfl, rfl⟩) (sub (.cons ax .nil) bu))
end Go.Proofs.YtmaiakpjgomnpaaGreat
namespace Go.Proofs.YtmaiakpjgomnpaaGreat
open Go.Sl
theorem V.YK : ay Tryz.prog 80 = true := by kernel_rfl
theorem V.TO : a8 Tryz.prog 88 1 = some 1 := by kernel_rfl
theorem V.SE : eF Tryz.prog 137 = some [(0, 1), (1, 1), (2, 1), (3, 1)] := by kernel_rfl
theorem V.XT : cx Tryz.prog 137 = some ([.bool false, .bool false, .bool false, .bool false]) := by kernel_rfl
end Go.Proofs.YtmaiakpjgomnpaaGreat
namespace Go.Proofs.YtmaiakpjgomnpaaGreat
open Go.Sl 
attribute [local irreducible] af.an aa.fN aa.fI aa.dr aa.fu aa.eM aa.gl aa.aZ aa.aT aa.aQ aa.aY aa.bR aa.fM aa.df aa.cJ aa.bT aa.walk aa.aK
theorem Ro (es : List Ce) (i : Nat) : ((es.map Ce.ch).map aa.Ch.k).getD i [] = (CK.g es (i : Int)).k := by
 show _ = (es.getD i _).k
 simp only [List.getD_eq_getElem?_getD, List.getElem?_map]
 cases es[i]? <;> rfl
theorem Mj (es : List Ce) (i : Nat) : ((es.map Ce.ch).map (·.d.length)).getD i 0 = (CK.g es (i : Int)).d.length := by
 show _ = (es.getD i _).d.length
 simp only [List.getD_eq_getElem?_getD, List.getElem?_map]
 cases es[i]? <;> rfl
theorem MV {es : List Ce} {i : Nat} (h : i < es.length - 2) : (aa.aK (es.map Ce.ch))[i]? = some (CK.g ((es.drop 1).take (es.length - 1 - 1)) (i : Int)).ch := by
 rw [aa.Kc (by rw [List.length_map]; exact h), List.getElem?_map]
 have e : CK.g ((es.drop 1).take (es.length - 1 - 1)) (i : Int) = es[1 + i]'(by omega) := by
  show ((es.drop 1).take (es.length - 1 - 1)).getD i _ = _
  rw [List.getD_eq_getElem?_getD, List.getElem?_take_of_lt (by omega), List.getElem?_drop, List.getElem?_eq_getElem (by omega)]
  rfl
 rw [e, List.getElem?_eq_getElem (by omega)]
 rfl
theorem km {es : List Ce} {i : Nat} (P : Ce → Prop) (h : ∀ x ∈ es, P x) (hi : i < es.length) : P (CK.g es (i : Int)) := by
 have : CK.g es (i : Int) = es[i] := CK.vV hi
 rw [this]
 exact h _ (List.getElem_mem hi)
def H4 (es : List Ce) : Prop := ∀ x ∈ es, af.an x.k ∧ x.k.length < 500000000
set_option maxHeartbeats 8000000 in
theorem KV (p : Option Addr) (c : Nat) (es : List Ce) (R : ad) (hR : ∀ w0 h, R w0 h → aE CK p es.length es w0 h) (hel : es.length ≤ 262144) (hok : H4 es) (hcap : es.length ≤ c) : aA Tryz.prog 38 [.slice p es.length c] [R] (aF fun v G => v = .int .i64 (aa.G1 (es.map Ce.ch)) ∧ G = [R]) := by
 refine au [(0, _)] Tryz.func38 rfl Tryz.ntmps38 rfl rfl ?_
 intro w0 F
 have h6 := aa.XR (es.map Ce.ch)
 rw [List.length_map, Ro, Mj, Ro, Mj, show (((0 : Nat) : Int)) = 0 from rfl] at h6
 refine (QP) ?_
 rcases (h6) with ⟨h3, ho⟩ | ⟨h3, hk0, ho⟩ | ⟨h3, hk0, hd0, ho⟩ | ⟨h3, hk0, hd0, hkn, ho⟩ | ⟨h3, hk0, hd0, hkn, hdn, ho⟩ | ⟨h3, hk0, hd0, hkn, hdn, ho⟩
 ·refine (E6)<|(QY) ?_
  refine rO TT 42 rfl ?_
  rw [← aa.lf ho]
  exact ag (av rfl) ⟨rfl, rfl⟩ (sub (ao .nil) ak)
 ·refine (Q5)<|(CT)<|(Q3) ?_
  have hb0 : af.an (CK.g es 0).k := (km (i := 0) (fun x => af.an x.k ∧ x.k.length < 500000000) hok (by omega)).1
  have hbn := (km (i := (es.length - 1)) (fun x => af.an x.k ∧ x.k.length < 500000000) hok (by omega)).1
  refine (Q9) ?_
  refine (QE) ?_
  refine (Q6) ?_
  refine (Q0) ?_
  refine (l7) ?_
  refine (Q0) ?_
  refine (vE) ?_
  refine (Q0) ?_
  refine (vB) ?_
  refine (Q0) ?_
  refine oV (cW (v := .bool true) (mG (r := false) (tq (aa.bp hb0) (aa.bp aa.KH) hk0) rfl (show aq _ _ = some (.string (strOfNums aa.bR)) by unfold aa.bR; rfl)) rfl) ?_
  refine rO TT 36 rfl ?_
  rw [← aa.lf ho]
  exact ag (av rfl) ⟨rfl, rfl⟩ (sub (ao .nil) ak)
 ·refine (Q5)<|(CT)<|(Q3) ?_
  have hb0 : af.an (CK.g es 0).k := (km (i := 0) (fun x => af.an x.k ∧ x.k.length < 500000000) hok (by omega)).1
  have hbn := (km (i := (es.length - 1)) (fun x => af.an x.k ∧ x.k.length < 500000000) hok (by omega)).1
  refine (Q9) ?_
  refine (QE) ?_
  refine (Q6) ?_
  refine (Q0) ?_
  refine (l7) ?_
  refine (Q0) ?_
  refine (vE) ?_
  refine (Q0) ?_
  refine (vB) ?_
  refine (Q0) ?_
  refine (IT) ?_
  refine (Qg) ?_
  refine (Q0) ?_
  refine (l7) ?_
  refine (Q0) ?_
  refine (oU) ?_
  refine (Q0) ?_
  refine (zN) ?_
  refine (Q0) ?_
  refine (ow) ?_
  refine (Q0) ?_
  refine oV (c9 (cG rfl rfl) (fun hh => hd0 (by omega))) ?_
  refine rO TT 28 rfl ?_
  rw [← aa.lf ho]
  exact ag (av rfl) ⟨rfl, rfl⟩ (sub (ao .nil) ak)
 ·refine (Q5)<|(CT)<|(Q3) ?_
  have hb0 : af.an (CK.g es 0).k := (km (i := 0) (fun x => af.an x.k ∧ x.k.length < 500000000) hok (by omega)).1
  have hbn := (km (i := (es.length - 1)) (fun x => af.an x.k ∧ x.k.length < 500000000) hok (by omega)).1
  refine (Q9) ?_
  refine (QE) ?_
  refine (Q6) ?_
  refine (Q0) ?_
  refine (l7) ?_
  refine (Q0) ?_
  refine (vE) ?_
  refine (Q0) ?_
  refine (vB) ?_
  refine (Q0) ?_
  refine (IT) ?_
  refine (Qg) ?_
  refine (Q0) ?_
  refine (l7) ?_
  refine (Q0) ?_
  refine (oU) ?_
  refine (Q0) ?_
  refine (zN) ?_
  refine (Q0) ?_
  refine (ow) ?_
  refine (Q0) ?_
  refine (Jh) ?_
  refine (Q8) ?_
  refine (Q0) ?_
  refine (l7) ?_
  refine (Q0) ?_
  refine (vE) ?_
  refine (Q0) ?_
  refine (vB) ?_
  refine (Q0) ?_
  refine oV (cW (v := .bool true) (mG (r := false) (tq (aa.bp hbn) (aa.bp aa.wP) hkn) rfl (show aq _ _ = some (.string (strOfNums aa.aY)) by unfold aa.aY; rfl)) rfl) ?_
  refine rO TT 20 rfl ?_
  rw [← aa.lf ho]
  exact ag (av rfl) ⟨rfl, rfl⟩ (sub (ao .nil) ak)
 ·refine (Q5)<|(CT)<|(Q3) ?_
  have hb0 : af.an (CK.g es 0).k := (km (i := 0) (fun x => af.an x.k ∧ x.k.length < 500000000) hok (by omega)).1
  have hbn := (km (i := (es.length - 1)) (fun x => af.an x.k ∧ x.k.length < 500000000) hok (by omega)).1
  refine (Q9) ?_
  refine (QE) ?_
  refine (Q6) ?_
  refine (Q0) ?_
  refine (l7) ?_
  refine (Q0) ?_
  refine (vE) ?_
  refine (Q0) ?_
  refine (vB) ?_
  refine (Q0) ?_
  refine (IT) ?_
  refine (Qg) ?_
  refine (Q0) ?_
  refine (l7) ?_
  refine (Q0) ?_
  refine (oU) ?_
  refine (Q0) ?_
  refine (zN) ?_
  refine (Q0) ?_
  refine (ow) ?_
  refine (Q0) ?_
  refine (Jh) ?_
  refine (Q8) ?_
  refine (Q0) ?_
  refine (l7) ?_
  refine (Q0) ?_
  refine (vE) ?_
  refine (Q0) ?_
  refine (vB) ?_
  refine (Q0) ?_
  refine (U6) ?_
  refine (Q8) ?_
  refine (Q0) ?_
  refine (l7) ?_
  refine (Q0) ?_
  refine (oU) ?_
  refine (Q0) ?_
  refine (zN) ?_
  refine (Q0) ?_
  refine (ow) ?_
  refine (Q0) ?_
  refine (Qu) ?_
  refine (Qp) ?_
  rw [← aa.lf ho]
  exact ag (av rfl) ⟨rfl, rfl⟩ (sub (ao .nil) ak)
 ·refine (Q5)<|(CT)<|(Q3) ?_
  have hb0 : af.an (CK.g es 0).k := (km (i := 0) (fun x => af.an x.k ∧ x.k.length < 500000000) hok (by omega)).1
  have hbn := (km (i := (es.length - 1)) (fun x => af.an x.k ∧ x.k.length < 500000000) hok (by omega)).1
  refine (Q9) ?_
  refine (QE) ?_
  refine (Q6) ?_
  refine (Q0) ?_
  refine (l7) ?_
  refine (Q0) ?_
  refine (vE) ?_
  refine (Q0) ?_
  refine (vB) ?_
  refine (Q0) ?_
  refine (IT) ?_
  refine (Qg) ?_
  refine (Q0) ?_
  refine (l7) ?_
  refine (Q0) ?_
  refine (oU) ?_
  refine (Q0) ?_
  refine (zN) ?_
  refine (Q0) ?_
  refine (ow) ?_
  refine (Q0) ?_
  refine (Jh) ?_
  refine (Q8) ?_
  refine (Q0) ?_
  refine (l7) ?_
  refine (Q0) ?_
  refine (vE) ?_
  refine (Q0) ?_
  refine (vB) ?_
  refine (Q0) ?_
  refine (U6) ?_
  refine (Q8) ?_
  refine (Q0) ?_
  refine (l7) ?_
  refine (Q0) ?_
  refine (oU) ?_
  refine (Q0) ?_
  refine (zN) ?_
  refine (Q0) ?_
  refine (ow) ?_
  refine (Q0) ?_
  refine (Qr) ?_
  refine (Ql) ?_
  refine oV (cR V.SE V.XT rfl (cs := [_, _, _, _]) rfl) ?_
  refine iI rfl (cs := [.bool false, .bool false, .bool false, .bool false]) rfl rfl ?_
  intro b45
  refine (Q3) ?_
  have hM : ∀ w0 h, R w0 h → aE CK (dG p 1 c 2) ((es.length - 1) - 1) ((es.drop 1).take ((es.length - 1) - 1)) w0 h := fun w0 h hh => (hR w0 h hh).sub 1 (es.length - 1) c (by omega) (by omega) (by omega)
  refine (Q4) ?_
  refine oV (eh 1 (es.length - 1) c V.ru rfl ⟨_, rfl⟩ ⟨_, rfl⟩ rfl (by omega) (by omega) (by omega))<|(Q3) ?_
  refine gk (fun (i : Nat) (w : aa.Wk) => [(4, .pointer (some ⟨b45, 0, none⟩)), (48, .slice (dG p 1 c 2) ((es.length - 1) - 1) (c - 1)), (49, .int .i64 (((es.length - 1) - 1 : Nat) : Int)), (50, .int .i64 (i : Int))]) (fun (i : Nat) (w : aa.Wk) => ai b45 137 [.bool w.plte, .bool w.trns, .bool w.bW, .bool w.j0] :: R :: F) (fun (i : Nat) (w : aa.Wk) => i ≤ es.length - 2 ∧ aa.walk ((aa.aK (es.map Ce.ch)).drop i) w = aa.walk (aa.aK (es.map Ce.ch)) aa.xj) (fun (i : Nat) (w : aa.Wk) => es.length - 2 - i) (i2 (0) (aa.xj) ?_ (eg ln) (sub (aO .nil) ak)) ?_
  ·exact ⟨Nat.zero_le _, rfl⟩
  intro i w
  rintro ⟨hi, hwk⟩
  refine (Qm) ?_
  refine aD rfl (fun h51 => ?_) (fun h51 => ?_)
  ·refine (Qf) ?_
   have hmi := MV (es := es) (i := i) (by omega)
   have hxo : af.an (CK.g ((es.drop 1).take ((es.length - 1) - 1)) (i : Int)).k ∧ (CK.g ((es.drop 1).take ((es.length - 1) - 1)) (i : Int)).k.length < 500000000 := km (fun x => af.an x.k ∧ x.k.length < 500000000) (fun x hx => hok x (List.mem_of_mem_drop (List.mem_of_mem_take hx))) (by rw [List.length_take, List.length_drop]; omega)
   have hwn := aa.Oi (w := w) _ hmi
   refine (Qo) ?_
   refine oV (xI V.ru (by exact bK hM dC))<|oV (mZ (c := (CK)) V.oB rfl (by exact bK hM dC) (by omega) (by omega) rfl)<|(xp) ?_
   intro b6
   refine (qU)<|(Q6) ?_
   rcases (aa.Pz (aa.bT ⟨w.plte, w.trns, w.bW, w.j0⟩ (CK.g ((es.drop 1).take ((es.length - 1) - 1)) (i : Int)).ch).2) with hb | hb
   ·refine (Q4)<|(E9)<|(Vr) ?_
    rintro _ _ ⟨rfl, rfl⟩
    rw [hb]
    refine (Cw) ?_
    have hb2 : (aa.bT w (CK.g ((es.drop 1).take ((es.length - 1) - 1)) (i : Int)).ch).2 = true := hb
    rw [hb2] at hwn
    exact j2 (i + 1) (aa.bT ⟨w.plte, w.trns, w.bW, w.j0⟩ (CK.g ((es.drop 1).take ((es.length - 1) - 1)) (i : Int)).ch).1 ⟨⟨by omega, hwn.symm.trans hwk⟩, by omega⟩ (eg ln) (sub (ao (.cons ax .nil)) bu)
   ·refine (Q4)<|(E9)<|(Vr) ?_
    rintro _ _ ⟨rfl, rfl⟩
    rw [hb]
    refine (QM) ?_
    have hb2 : (aa.bT w (CK.g ((es.drop 1).take ((es.length - 1) - 1)) (i : Int)).ch).2 = false := hb
    rw [hb2] at hwn
    rw [← aa.lf (aa.Ox ho (hwk.symm.trans hwn))]
    exact ag (av rfl) ⟨rfl, rfl⟩ (sub (.cons bo .nil) fV)
  ·refine (Qf) ?_
   rcases (aa.Pz w.bW) with hb | hb
   ·refine (Q9) ?_
    rw [aa.D2 (by rw [aa.zM (by rw [List.length_map]; omega), List.length_map]; omega)] at hwk
    refine (Q5)<|(nf) ?_
    rw [hb]
    refine (QI) ?_
    rw [← aa.pc ((aa.Eo ho hwk.symm).trans hb)]
    exact ag (av rfl) ⟨rfl, rfl⟩ (sub (.cons ax .nil) bu)
   ·refine (Q9) ?_
    rw [aa.D2 (by rw [aa.zM (by rw [List.length_map]; omega), List.length_map]; omega)] at hwk
    refine (Q5)<|(nf) ?_
    rw [hb]
    refine (Qp) ?_
    rw [← aa.lf ((aa.Eo ho hwk.symm).trans hb)]
    exact ag (av rfl) ⟨rfl, rfl⟩ (sub (.cons ax .nil) bu)
end Go.Proofs.YtmaiakpjgomnpaaGreat
namespace Go.Proofs.YtmaiakpjgomnpaaGreat
open Go.Sl
theorem V.X8 : ay Tryz.prog 64 = true := by kernel_rfl
theorem V.YQ : ay Tryz.prog 65 = true := by kernel_rfl
theorem V.YB : ay Tryz.prog 66 = true := by kernel_rfl
theorem V.uo : eF Tryz.prog 57 = some [(0, 1), (1, 1)] := by kernel_rfl
theorem V.l8 : sliceB Tryz.prog 59 = some (57, 2, 40) := by kernel_rfl
theorem V.u9 : cx Tryz.prog 57 = some ([.string .empty, .slice none 0 0]) := by kernel_rfl
end Go.Proofs.YtmaiakpjgomnpaaGreat
namespace Go.Proofs.YtmaiakpjgomnpaaGreat
open Go.Sl 
attribute [local irreducible] af.an aa.fN aa.fI aa.dr aa.fu aa.eM aa.gl aa.gf aa.first aa.cut aa.fy aa.ea aa.aY aa.df aa.mJ
abbrev aP : Ec Ce := ⟨57, 2, fun x => [.string (strOfNums x.k), .slice x.p x.d.length x.c], ⟨[], none, 0, []⟩, fun _ => rfl, fun _ => rfl⟩
set_option maxHeartbeats 1000000 in
theorem DR (kk : List Int) (hk : af.an kk) (hkl : kk.length < 500000000) (t : Bool) (ht : t = decide (aa.df kk)) : aA Tryz.prog 65 [.string (strOfNums kk)] [] (aF fun v G => v = .bool t ∧ G = []) := by
 refine au [(0, _)] Tryz.func65 rfl Tryz.ntmps65 rfl rfl ?_
 intro w0 F
 refine (QP) ?_
 rcases (Classical.em (kk.length = 4)) with h4 | h4
 ·refine (Q5)<|(IQ)<|(Jh)<|(QI) ?_
  refine cE (fun (i : Nat) => [(0, .string (strOfNums kk)), (3, .int .i64 (i : Int))]) (fun (i : Nat) => F) (fun (i : Nat) => i ≤ 4 ∧ ∀ j, j < i → aa.jG (kk.getD j 0)) (fun (i : Nat) => 4 - i) (i1 (0) ?_ (iE ln) (sub .nil ak)) ?_
  ·exact ⟨Nat.zero_le _, fun j hj => by omega⟩
  intro i
  rintro ⟨hi, hall⟩
  refine rL TT 7 rfl ?_
  refine aD rfl (fun h9 => ?_) (fun h9 => ?_)
  ·refine rC TT 8 rfl<|(Si) ?_
   refine oV (mT (r := (aa.mJ (kk.getD i 0))) rfl rfl (by unfold aa.mJ; rfl))<|(Qg) ?_
   rcases (aa.o3 (hk.get i)) with ⟨h1, hn⟩ | ⟨h1, h2, hn⟩ | ⟨h1, h2, hl1⟩
   ·refine (Q4)<|(QY) ?_
    refine rO TT 18 rfl ?_
    obtain rfl : t = false := ht.trans (decide_eq_false (aa.ux hn (by omega)))
    exact ag (av rfl) ⟨rfl, rfl⟩ (sub .nil ak)
   ·refine (Q4) ?_
    refine (QE) ?_
    refine (Q6) ?_
    refine (Q0) ?_
    refine (Qu) ?_
    refine (QM) ?_
    obtain rfl : t = false := ht.trans (decide_eq_false (aa.ux hn (by omega)))
    exact ag (av rfl) ⟨rfl, rfl⟩ (sub .nil ak)
   ·refine (Q4) ?_
    refine (QE) ?_
    refine (Q6) ?_
    refine (Q0) ?_
    refine (Qr) ?_
    refine (xf) ?_
    refine j1 (i + 1) ?_ (iE ln) (sub .nil ak)
    exact ⟨⟨by omega, fun j hj => (Nat.lt_succ_iff_lt_or_eq.1 hj).elim (hall j) (fun e => e ▸ hl1)⟩, by omega⟩
  ·refine (ox) ?_
   obtain rfl : i = 4 := by omega
   obtain rfl : t = true := ht.trans (decide_eq_true ((aa.AN (by rw [h4]; exact hall)).2 h4))
   exact ag (av rfl) ⟨rfl, rfl⟩ (sub .nil ak)
 ·refine (Q5)<|(IQ) ?_
  refine oV (c9 (cG rfl rfl) (fun hh => h4 (by omega)))<|(Qe) ?_
  obtain rfl : t = false := ht.trans (decide_eq_false (aa.TL h4))
  exact ag (av rfl) ⟨rfl, rfl⟩ (sub .nil ak)
theorem MB  : aA Tryz.prog 64 [] [] (aF fun v G => v = .string (strOfNums aa.ea) ∧ G = []) := by
 refine au [] Tryz.func64 rfl Tryz.ntmps64 rfl rfl ?_
 intro w0 F
 exact rT TT 11 rfl<|ag (av (show _ = some (.string (strOfNums aa.ea)) by unfold aa.ea; rfl)) ⟨rfl, rfl⟩ (sub .nil ak)
end Go.Proofs.YtmaiakpjgomnpaaGreat
namespace Go.Proofs.YtmaiakpjgomnpaaGreat
open Go.Sl
theorem V.s7 : a8 Tryz.prog 57 0 = some 0 := by kernel_rfl
theorem V.ql : a8 Tryz.prog 57 1 = some 1 := by kernel_rfl
end Go.Proofs.YtmaiakpjgomnpaaGreat
namespace Go.Proofs.YtmaiakpjgomnpaaGreat
open Go.Sl 
attribute [local irreducible] af.an aa.fN aa.fI aa.dr aa.fu aa.eM aa.gl aa.aZ aa.aT aa.aQ aa.aY aa.bR aa.df aa.cJ aa.dv aa.kA aa.sd
theorem oL {es : List Ce} {i : Nat} (h : i < es.length) : (es.map Ce.ch)[i]? = some (aP.g es (i : Int)).ch := by
 rw [List.getElem?_map, List.getElem?_eq_getElem h]
 have : aP.g es (i : Int) = es[i] := aP.vV h
 rw [this]; rfl
theorem mh {es : List Ce} {i : Nat} (P : Ce → Prop) (h : ∀ x ∈ es, P x) (hi : i < es.length) : P (aP.g es (i : Int)) := by
 have : aP.g es (i : Int) = es[i] := aP.vV hi
 rw [this]
 exact h _ (List.getElem_mem hi)
end Go.Proofs.YtmaiakpjgomnpaaGreat
namespace Go.Proofs.YtmaiakpjgomnpaaGreat
open Go.Sl
theorem V.a145 : fX Tryz.prog 145 = some 6 := by kernel_rfl
theorem V.PX : fX Tryz.prog 181 = some 42 := by kernel_rfl
theorem V.gJ : fX Tryz.prog 26 = some 3 := by kernel_rfl
theorem V.Jm : iA Tryz.prog 181 = some (7, 145, 6) := by kernel_rfl
theorem V.pL : ay Tryz.prog 115 = true := by kernel_rfl
theorem V.OY : ay Tryz.prog 144 = true := by kernel_rfl
theorem V.yH : ay Tryz.prog 58 = true := by kernel_rfl
theorem V.HO : ay Tryz.prog 60 = true := by kernel_rfl
theorem V.PA : a8 Tryz.prog 145 4 = some 4 := by kernel_rfl
theorem V.LU : a8 Tryz.prog 145 5 = some 5 := by kernel_rfl
theorem V.SK : a8 Tryz.prog 26 0 = some 0 := by kernel_rfl
theorem V.sB : a8 Tryz.prog 26 1 = some 1 := by kernel_rfl
theorem V.vS : a8 Tryz.prog 26 2 = some 2 := by kernel_rfl
theorem V.SZ : eF Tryz.prog 145 = some [(0, 1), (1, 1), (2, 1), (3, 1), (4, 1), (5, 1)] := by kernel_rfl
theorem V.uf : eF Tryz.prog 26 = some [(0, 1), (1, 1), (2, 1)] := by kernel_rfl
theorem V.sE : cg Tryz.prog 24 = true := by kernel_rfl
theorem V.sI : sliceB Tryz.prog 140 = some (145, 6, 48) := by kernel_rfl
theorem V.hG : sliceB Tryz.prog 24 = some (62, 1, 2) := by kernel_rfl
theorem V.z145 : cx Tryz.prog 145 = some ([.int .i64 0, .int .i64 0, .int .i64 0, .int .i64 0, .int .i64 0, .int .i64 0]) := by kernel_rfl
theorem V.O3 : cx Tryz.prog 181 = some (List.replicate 42 (.int .i64 0)) := by kernel_rfl
theorem V.vt : cx Tryz.prog 26 = some ([.int .i64 0, .int .i64 0, .slice none 0 0]) := by kernel_rfl
theorem V.EY : cx Tryz.prog 62 = some ([.int .u16 0]) := by kernel_rfl
end Go.Proofs.YtmaiakpjgomnpaaGreat
namespace Go.Proofs.YtmaiakpjgomnpaaGreat
open Go.Sl 
attribute [local irreducible] aa.aW aa.many aa.dE aa.fh aa.tJ aa.pD aa.gX aa.il
section
variable {C : Ctx} {E : Env} {L : List ad}
theorem Ug {t T n b T' : Nat} {cs : List Value} (hs : fX C.P T = some n) (h1 : E.get t = some (.pointer (some ⟨b, 0, none⟩))) (hm : ai b T' cs ∈ L) (hn : cs.length = n) : kp C #[.cell t T] E L (.agg cs.toArray) := fun fn a w hr ha hi => by
 obtain ⟨g1, g2⟩ := kQ hs w
 obtain ⟨F, hF⟩ := hi.mem hm
 have := run_loadCells_list (P := C.P) w ⟨b, 0, none⟩ cs (fun j v hj => by rw [Addr.fe, hF.gY, ← hj]; simp)
 rw [hn] at this
 simp [results, hr, ha.get _ _ h1, asAddr, loadVar, g1, g2, this]
end
set_option maxHeartbeats 1000000 in
theorem mj (w h : Int) : aA Tryz.prog 58 [.int .i64 w, .int .i64 h] [] (aF fun v G => v = .int .i64 (aa.aW w h) ∧ G = []) := by
 refine au [(0, _), (1, _)] Tryz.func58 rfl Tryz.ntmps58 rfl rfl ?_
 intro w0 F
 refine rT TT 7 rfl ?_
 rcases (aa.Bz w h) with ⟨a0, hs⟩ | ⟨a0, a1, hs⟩ | ⟨a0, a1, a2, hs⟩ | ⟨a0, a1, a2, a3, hs⟩ | ⟨a0, a1, a2, a3, a4, hs⟩ | ⟨a0, a1, a2, a3, a4, hs⟩
 ·refine (Q4)<|(QY) ?_
  exact rO TT 16 rfl<|ag (av rfl) ⟨congrArg (Value.int .i64) hs.symm, rfl⟩ (sub .nil ak)
 ·refine (Q4) ?_
  refine (QE) ?_
  refine (Q6) ?_
  refine (Q0) ?_
  refine (QY) ?_
  refine (Qq) ?_
  exact ag (av rfl) ⟨congrArg (Value.int .i64) hs.symm, rfl⟩ (sub .nil ak)
 ·refine (Q4) ?_
  refine (QE) ?_
  refine (Q6) ?_
  refine (Q0) ?_
  refine (QE) ?_
  refine (Ql) ?_
  refine (Qu) ?_
  refine rO TT 22 rfl ?_
  exact ag (av rfl) ⟨congrArg (Value.int .i64) hs.symm, rfl⟩ (sub .nil ak)
 ·refine (Q4) ?_
  refine (QE) ?_
  refine (Q6) ?_
  refine (Q0) ?_
  refine (QE) ?_
  refine (Ql) ?_
  refine (Qr) ?_
  refine (Q6) ?_
  refine (Q0) ?_
  refine (Qu) ?_
  refine rO TT 19 rfl ?_
  exact ag (av rfl) ⟨congrArg (Value.int .i64) hs.symm, rfl⟩ (sub .nil ak)
 ·refine rC TT 3 rfl ?_
  refine oV (bS (dR rfl rfl) (by omega)) ?_
  refine rO TT 2 rfl ?_
  refine cN rfl ?_
  refine oV (bS (dR rfl rfl) (by omega)) ?_
  refine rO TT 8 rfl ?_
  refine oV (bS (ed rfl rfl) (by omega)) ?_
  refine rO TT 2 rfl ?_
  refine cN rfl ?_
  refine oV (bS (ed rfl rfl) (by omega)) ?_
  refine rO TT 4 rfl ?_
  refine cN rfl ?_
  refine oV (iJ (r := 16384 / h) rfl rfl (by omega) (aa.oX (by omega))) ?_
  refine cN rfl ?_
  refine oV (c9 (ed rfl rfl) (by omega)) ?_
  refine rO TT 13 rfl ?_
  exact ag (av rfl) ⟨congrArg (Value.int .i64) hs.symm, rfl⟩ (sub .nil ak)
 ·refine rC TT 3 rfl ?_
  refine oV (bS (dR rfl rfl) (by omega)) ?_
  refine rO TT 2 rfl ?_
  refine cN rfl ?_
  refine oV (bS (dR rfl rfl) (by omega)) ?_
  refine rO TT 8 rfl ?_
  refine oV (bS (ed rfl rfl) (by omega)) ?_
  refine rO TT 2 rfl ?_
  refine cN rfl ?_
  refine oV (bS (ed rfl rfl) (by omega)) ?_
  refine rO TT 4 rfl ?_
  refine cN rfl ?_
  refine oV (iJ (r := 16384 / h) rfl rfl (by omega) (aa.oX (by omega))) ?_
  refine cN rfl ?_
  refine oV (bS (ed rfl rfl) (by omega)) ?_
  refine rO TT 14 rfl ?_
  exact ag (av rfl) ⟨congrArg (Value.int .i64) hs.symm, rfl⟩ (sub .nil ak)
set_option maxHeartbeats 1000000 in
theorem td (w h : Int) : aA Tryz.prog 60 [.int .i64 w, .int .i64 h] [] (aF fun v G => v = .int .i64 (aa.aW w h) ∧ G = []) := by
 refine au [(0, _), (1, _)] Tryz.func60 rfl Tryz.ntmps60 rfl rfl ?_
 intro w0 F
 refine rT TT 7 rfl ?_
 rcases (aa.Bz w h) with ⟨a0, hs⟩ | ⟨a0, a1, hs⟩ | ⟨a0, a1, a2, hs⟩ | ⟨a0, a1, a2, a3, hs⟩ | ⟨a0, a1, a2, a3, a4, hs⟩ | ⟨a0, a1, a2, a3, a4, hs⟩
 ·refine (Q4)<|(QY) ?_
  exact rO TT 16 rfl<|ag (av rfl) ⟨congrArg (Value.int .i64) hs.symm, rfl⟩ (sub .nil ak)
 ·refine (Q4) ?_
  refine (QE) ?_
  refine (Q6) ?_
  refine (Q0) ?_
  refine (QY) ?_
  refine (Qq) ?_
  exact ag (av rfl) ⟨congrArg (Value.int .i64) hs.symm, rfl⟩ (sub .nil ak)
 ·refine (Q4) ?_
  refine (QE) ?_
  refine (Q6) ?_
  refine (Q0) ?_
  refine (QE) ?_
  refine (Ql) ?_
  refine (Qu) ?_
  refine rO TT 22 rfl ?_
  exact ag (av rfl) ⟨congrArg (Value.int .i64) hs.symm, rfl⟩ (sub .nil ak)
 ·refine (Q4) ?_
  refine (QE) ?_
  refine (Q6) ?_
  refine (Q0) ?_
  refine (QE) ?_
  refine (Ql) ?_
  refine (Qr) ?_
  refine (Q6) ?_
  refine (Q0) ?_
  refine (Qu) ?_
  refine rO TT 19 rfl ?_
  exact ag (av rfl) ⟨congrArg (Value.int .i64) hs.symm, rfl⟩ (sub .nil ak)
 ·refine rC TT 3 rfl ?_
  refine oV (bS (dR rfl rfl) (by omega)) ?_
  refine rO TT 2 rfl ?_
  refine cN rfl ?_
  refine oV (bS (dR rfl rfl) (by omega)) ?_
  refine rO TT 8 rfl ?_
  refine oV (bS (ed rfl rfl) (by omega)) ?_
  refine rO TT 2 rfl ?_
  refine cN rfl ?_
  refine oV (bS (ed rfl rfl) (by omega)) ?_
  refine rO TT 4 rfl ?_
  refine cN rfl ?_
  refine oV (iJ (r := 16384 / h) rfl rfl (by omega) (aa.oX (by omega))) ?_
  refine cN rfl ?_
  refine oV (c9 (ed rfl rfl) (by omega)) ?_
  refine rO TT 13 rfl ?_
  exact ag (av rfl) ⟨congrArg (Value.int .i64) hs.symm, rfl⟩ (sub .nil ak)
 ·refine rC TT 3 rfl ?_
  refine oV (bS (dR rfl rfl) (by omega)) ?_
  refine rO TT 2 rfl ?_
  refine cN rfl ?_
  refine oV (bS (dR rfl rfl) (by omega)) ?_
  refine rO TT 8 rfl ?_
  refine oV (bS (ed rfl rfl) (by omega)) ?_
  refine rO TT 2 rfl ?_
  refine cN rfl ?_
  refine oV (bS (ed rfl rfl) (by omega)) ?_
  refine rO TT 4 rfl ?_
  refine cN rfl ?_
  refine oV (iJ (r := 16384 / h) rfl rfl (by omega) (aa.oX (by omega))) ?_
  refine cN rfl ?_
  refine oV (bS (ed rfl rfl) (by omega)) ?_
  refine rO TT 14 rfl ?_
  exact ag (av rfl) ⟨congrArg (Value.int .i64) hs.symm, rfl⟩ (sub .nil ak)
set_option maxHeartbeats 1000000 in
theorem TC (w h : Int) : aA Tryz.prog 85 [.int .i64 w, .int .i64 h] [] (aF fun v G => (aa.aW w h ≠ 0 ∧ v = .tuple #[.agg #[.int .i64 0, .int .i64 0, .slice none 0 0], .int .i64 (aa.aW w h)] ∧ G = []) ∨ (aa.aW w h = 0 ∧ ∃ b, v = .tuple #[.agg #[.int .i64 w, .int .i64 h, .slice (some ⟨b, 0, none⟩) ((4 * w * h).toNat) ((4 * w * h).toNat)], .int .i64 0] ∧ G = [Row (aC 62 .u16) (some ⟨b, 0, none⟩) ((4 * w * h).toNat) ((4 * w * h).toNat) (List.replicate (4 * w * h).toNat (aC 62 .u16).d)])) := by
 refine au [(0, _), (1, _)] Tryz.func85 rfl Tryz.ntmps85 rfl rfl ?_
 intro w0 F
 refine (Qt)<|(vF) ?_
 intro b4
 refine rO TT 8 rfl ?_
 refine aj (mj w h) V.yH  rfl .nil rfl ?_
 rintro _ _ ⟨rfl, rfl⟩
 refine (Qg) ?_
 rcases (Classical.em (aa.aW w h = 0)) with hs | hs
 ·refine (Q4)<|(yk)<|(Q1) ?_
  have h4 := aa.pW hs
  have h1 := aa.jE hs
  refine jJ TT 6 rfl (by omega) ?_
  refine oV (cW (v := .int .i64 ((4 * w * h).toNat : Int)) (gG rfl rfl wI) (by congr 1; omega)) ?_
  refine kL ((4 * w * h).toNat) ((4 * w * h).toNat) (aC 62 .u16) rfl rfl V.hG V.EY rfl rfl rfl rfl (by omega) (by omega) rfl rfl ?_
  intro b20
  refine oV (cR V.uf V.vt rfl (cs := [.int .i64 w, .int .i64 h, .slice (some ⟨b20, 0, none⟩) ((4 * w * h).toNat) ((4 * w * h).toNat)]) rfl) ?_
  refine cA (bd V.gJ rfl rfl (us := [_, _, _]) rfl rfl (by exact qT) (by exact Nat.le_of_ble_eq_true rfl) rfl) ?_
  refine rO TT 4 rfl ?_
  exact ag (dU V.gJ rfl dC rfl rfl) (.inr ⟨hs, _, rfl, rfl⟩) (sub (ao .nil) bu)
 ·refine rC TT 3 rfl ?_
  refine oV (c9 (cG rfl rfl) (by omega)) ?_
  refine rO TT 5 rfl ?_
  refine oV (cR V.uf V.vt rfl (cs := [.int .i64 0, .int .i64 0, .slice none 0 0]) rfl) ?_
  refine oV (iW rfl) ?_
  refine cA (bd V.gJ rfl rfl (us := [_, _, _]) rfl rfl (by exact fO) (by exact Nat.le_of_ble_eq_true rfl) rfl) ?_
  refine rO TT 5 rfl ?_
  exact ag (dU V.gJ rfl aB rfl rfl) (.inl ⟨hs, rfl, rfl⟩) (sub .nil bu)
set_option maxHeartbeats 1000000 in
theorem SI (w h : Int) : aA Tryz.prog 35 [.int .i64 w, .int .i64 h] [] (aF fun v G => (aa.aW w h ≠ 0 ∧ v = .tuple #[.agg #[.int .i64 0, .int .i64 0, .slice none 0 0], .int .i64 (aa.aW w h)] ∧ G = []) ∨ (aa.aW w h = 0 ∧ ∃ b, v = .tuple #[.agg #[.int .i64 w, .int .i64 h, .slice (some ⟨b, 0, none⟩) ((4 * w * h).toNat) ((4 * w * h).toNat)], .int .i64 0] ∧ G = [Row (aC 62 .u16) (some ⟨b, 0, none⟩) ((4 * w * h).toNat) ((4 * w * h).toNat) (List.replicate (4 * w * h).toNat (aC 62 .u16).d)])) := by
 refine au [(0, _), (1, _)] Tryz.func35 rfl Tryz.ntmps35 rfl rfl ?_
 intro w0 F
 refine (Qt)<|(vF) ?_
 intro b4
 refine rO TT 7 rfl ?_
 refine aj (td w h) V.HO  rfl .nil rfl ?_
 rintro _ _ ⟨rfl, rfl⟩
 refine (Qg) ?_
 rcases (Classical.em (aa.aW w h = 0)) with hs | hs
 ·refine (Q5)<|(yk)<|(Q1) ?_
  have h4 := aa.pW hs
  have h1 := aa.jE hs
  refine jJ TT 6 rfl (by omega) ?_
  refine oV (cW (v := .int .i64 ((4 * w * h).toNat : Int)) (gG rfl rfl wI) (by congr 1; omega)) ?_
  refine kL ((4 * w * h).toNat) ((4 * w * h).toNat) (aC 62 .u16) rfl rfl V.hG V.EY rfl rfl rfl rfl (by omega) (by omega) rfl rfl ?_
  intro b20
  refine oV (cR V.uf V.vt rfl (cs := [.int .i64 w, .int .i64 h, .slice (some ⟨b20, 0, none⟩) ((4 * w * h).toNat) ((4 * w * h).toNat)]) rfl) ?_
  refine cA (bd V.gJ rfl rfl (us := [_, _, _]) rfl rfl (by exact qT) (by exact Nat.le_of_ble_eq_true rfl) rfl) ?_
  refine rO TT 4 rfl ?_
  exact ag (dU V.gJ rfl dC rfl rfl) (.inr ⟨hs, _, rfl, rfl⟩) (sub (ao .nil) bu)
 ·refine (Q5)<|(OT)<|(Q3)<|(Yz)<|(Q7)<|(Du)<|(Q3) ?_
  exact ag (dU V.gJ rfl aB rfl rfl) (.inl ⟨hs, rfl, rfl⟩) (sub .nil bu)
set_option maxHeartbeats 1000000 in
theorem S9 (w h : Int) (q : Option Addr) (n c : Nat) (t : Bool) (ht : t = decide (aa.aW w h = 0 ∧ (n : Int) = 4 * w * h)) : aA Tryz.prog 67 [.agg #[.int .i64 w, .int .i64 h, .slice q n c]] [] (aF fun v G => v = .bool t ∧ G = []) := by
 refine au [(0, _)] Tryz.func67 rfl Tryz.ntmps67 rfl rfl ?_
 intro w0 F
 refine (Qt)<|(tt) ?_
 intro b1
 refine (Qg) ?_
 rcases (Classical.em (aa.aW w h = 0)) with hs | hs
 ·refine rC TT 3 rfl ?_
  refine oV (az V.s3 rfl aB rfl) ?_
  refine oV (bg V.sB rfl) ?_
  refine oV (az V.s3 rfl aB rfl) ?_
  refine aj (mj w h) V.yH  rfl .nil rfl ?_
  rintro _ _ ⟨rfl, rfl⟩
  refine oV (c9 (dz rfl rfl) (by omega)) ?_
  refine rO TT 2 rfl ?_
  refine cN rfl ?_
  refine oV (az V.sE rfl aB rfl) ?_
  refine rO TT 2 rfl ?_
  refine cN rfl ?_
  refine oV (az V.s3 rfl aB rfl) ?_
  have h4 := aa.pW hs
  have h1 := aa.jE hs
  refine (pS)<|(Q0)<|(Qk)<|(AA) ?_
  (rw [show decide ((n : Int) = 4 * w * h) = t from by rw [ht]; congr 1; simp [hs]]; exact ag (G := []) (av rfl) ⟨rfl, rfl⟩ (sub .nil bu))
 ·refine rC TT 3 rfl ?_
  refine oV (az V.s3 rfl aB rfl) ?_
  refine oV (bg V.sB rfl) ?_
  refine oV (az V.s3 rfl aB rfl) ?_
  refine aj (mj w h) V.yH  rfl .nil rfl ?_
  rintro _ _ ⟨rfl, rfl⟩
  refine (QB) ?_
  refine rO TT 16 rfl ?_
  (obtain rfl : t = false := by rw [ht]; exact decide_eq_false (fun hh => hs hh.1)
   exact ag (av rfl) ⟨rfl, rfl⟩ (sub .nil bu))
set_option maxHeartbeats 1000000 in
theorem vL (w h : Int) (q : Option Addr) (n c : Nat) (t : Bool) (ht : t = decide (aa.aW w h = 0 ∧ (n : Int) = 4 * w * h)) : aA Tryz.prog 21 [.agg #[.int .i64 w, .int .i64 h, .slice q n c]] [] (aF fun v G => v = .bool t ∧ G = []) := by
 refine au [(0, _)] Tryz.func21 rfl Tryz.ntmps21 rfl rfl ?_
 intro w0 F
 refine (Qt)<|(tt) ?_
 intro b1
 refine (Qg) ?_
 rcases (Classical.em (aa.aW w h = 0)) with hs | hs
 ·refine rC TT 3 rfl ?_
  refine oV (az V.s3 rfl aB rfl) ?_
  refine oV (bg V.sB rfl) ?_
  refine oV (az V.s3 rfl aB rfl) ?_
  refine aj (td w h) V.HO  rfl .nil rfl ?_
  rintro _ _ ⟨rfl, rfl⟩
  refine oV (c9 (dz rfl rfl) (by omega)) ?_
  refine rO TT 2 rfl ?_
  refine cN rfl ?_
  refine oV (az V.sE rfl aB rfl) ?_
  refine rO TT 2 rfl ?_
  refine cN rfl ?_
  refine oV (az V.s3 rfl aB rfl) ?_
  have h4 := aa.pW hs
  have h1 := aa.jE hs
  refine (pS)<|(Q0)<|(Qk)<|(AA) ?_
  (rw [show decide ((n : Int) = 4 * w * h) = t from by rw [ht]; congr 1; simp [hs]]; exact ag (G := []) (av rfl) ⟨rfl, rfl⟩ (sub .nil bu))
 ·refine rC TT 3 rfl ?_
  refine oV (az V.s3 rfl aB rfl) ?_
  refine oV (bg V.sB rfl) ?_
  refine oV (az V.s3 rfl aB rfl) ?_
  refine aj (td w h) V.HO  rfl .nil rfl ?_
  rintro _ _ ⟨rfl, rfl⟩
  refine (QB) ?_
  refine rO TT 16 rfl ?_
  (obtain rfl : t = false := by rw [ht]; exact decide_eq_false (fun hh => hs hh.1)
   exact ag (av rfl) ⟨rfl, rfl⟩ (sub .nil bu))
abbrev PK : Ec aa.Ps := ⟨145, 6, fun p => [.int .i64 p.x, .int .i64 p.y, .int .i64 p.dx, .int .i64 p.dy, .int .i64 p.w, .int .i64 p.h], ⟨0, 0, 0, 0, 0, 0⟩, fun _ => rfl, fun _ => rfl⟩
abbrev PKd : Ec aa.Ps := ⟨67, 6, fun p => [.int .i64 p.x, .int .i64 p.y, .int .i64 p.dx, .int .i64 p.dy, .int .i64 p.w, .int .i64 p.h], ⟨0, 0, 0, 0, 0, 0⟩, fun _ => rfl, fun _ => rfl⟩
set_option maxHeartbeats 1000000 in
theorem xW (n : Int) (t : Bool) (ht : t = decide (0 ≤ n ∧ n ≤ 256)) : aA Tryz.prog 116 [.int .i64 n] [] (aF fun v G => v = .bool t ∧ G = []) := by
 refine au [(0, _)] Tryz.func116 rfl Tryz.ntmps116 rfl rfl ?_
 intro w0 F
 refine (QP) ?_
 rcases (Classical.em (0 ≤ n)) with h0 | h0
 ·refine (Q4)<|(QO)<|(Ql) ?_
  (rw [show decide (n ≤ 256) = t from by rw [ht]; congr 1; simp [h0]]; exact ag (G := []) (av rfl) ⟨rfl, rfl⟩ (sub .nil ak))
 ·refine (Q4)<|(oO)<|(Ql) ?_
  (obtain rfl : t = false := by rw [ht]; exact decide_eq_false (fun hh => h0 hh.1)
   exact ag (av rfl) ⟨rfl, rfl⟩ (sub .nil ak))
set_option maxHeartbeats 1000000 in
theorem Di (frm step en : Int) (hs : step = 1 ∨ step = 2 ∨ step = 4 ∨ step = 8) (hf : 0 ≤ frm ∧ frm ≤ 8) (he : 0 ≤ en ∧ en ≤ 256) : aA Tryz.prog 144 [.int .i64 frm, .int .i64 step, .int .i64 en] [] (aF fun v G => v = .int .i64 (aa.many frm step en) ∧ G = []) := by
 refine au [(0, _), (1, _), (2, _)] Tryz.func144 rfl Tryz.ntmps144 rfl rfl ?_
 intro w0 F
 refine (QP) ?_
 rcases (Classical.em (en ≤ frm)) with h0 | h0
 ·refine (Qf)<|(QO)<|(Qe) ?_
  rw [← aa.TI hs frm h0]
  exact ag (av rfl) ⟨rfl, rfl⟩ (sub .nil ak)
 ·refine (Qf)<|(oO) ?_
  refine iD TT 14 rfl (by omega)<|oV (iJ (r := (en - frm + step - 1) / step) rfl rfl (by omega) (rH (m := en - frm + step - 1) (n := step) (by omega) (by omega) (by omega)))<|(Q8) ?_
  rw [← aa.IK h0]
  exact ag (av rfl) ⟨rfl, rfl⟩ (sub .nil ak)
set_option maxHeartbeats 1000000 in
theorem pC (x y dx dy w h : Int) (hx : 0 ≤ x ∧ x ≤ 8) (hy : 0 ≤ y ∧ y ≤ 8) (hdx : dx = 1 ∨ dx = 2 ∨ dx = 4 ∨ dx = 8) (hdy : dy = 1 ∨ dy = 2 ∨ dy = 4 ∨ dy = 8) (hw : 0 ≤ w ∧ w ≤ 256) (hh : 0 ≤ h ∧ h ≤ 256) : aA Tryz.prog 115 [.int .i64 x, .int .i64 y, .int .i64 dx, .int .i64 dy, .int .i64 w, .int .i64 h] [] (aF fun v G => v = .agg #[.int .i64 x, .int .i64 y, .int .i64 dx, .int .i64 dy, .int .i64 (aa.many x dx w), .int .i64 (aa.many y dy h)] ∧ G = []) := by
 refine au [(0, _), (1, _), (2, _), (3, _), (4, _), (5, _)] Tryz.func115 rfl Tryz.ntmps115 rfl rfl ?_
 intro w0 F
 refine (Qt) ?_
 refine dh V.z145 rfl ?_
 intro b12
 refine (Qp) ?_
 refine aj (Di x dx w hdx hx hw) V.OY  rfl .nil rfl ?_
 rintro _ _ ⟨rfl, rfl⟩
 refine (Qg) ?_
 refine aj (Di y dy h hdy hy hh) V.OY  rfl .nil rfl ?_
 rintro _ _ ⟨rfl, rfl⟩
 refine oV (cR V.SZ V.z145 rfl (cs := [.int .i64 x, .int .i64 y, .int .i64 dx, .int .i64 dy, .int .i64 (aa.many x dx w), .int .i64 (aa.many y dy h)]) (by kernel_rfl)) ?_
 refine cA (bd V.a145 rfl rfl (us := [_, _, _, _, _, _]) rfl rfl (by exact fO) (by exact Nat.le_of_ble_eq_true rfl) rfl) ?_
 refine rO TT 3 rfl ?_
 exact ag (Ug V.a145 rfl aB rfl) ⟨rfl, rfl⟩ (sub .nil bu)
set_option maxHeartbeats 1000000 in
theorem K1 (w h : Int) (hs : aa.aW w h = 0) : aA Tryz.prog 81 [.int .i64 w, .int .i64 h] [] (aF fun v G => ∃ p c, v = .slice p (aa.whole w h).length c ∧ G = [Row PK p (aa.whole w h).length c (aa.whole w h)]) := by
 refine au [(0, _), (1, _)] Tryz.func81 rfl Tryz.ntmps81 rfl rfl ?_
 intro w0 F
 have hsd := aa.jE hs
 have hw : 0 ≤ w ∧ w ≤ 256 := by omega
 have hh : 0 ≤ h ∧ h ≤ 256 := by omega
 refine rT TT 10 rfl ?_
 refine aj (mj w h) V.yH  rfl .nil rfl ?_
 rintro _ _ ⟨rfl, rfl⟩
 rw [hs]
 refine (yk)<|(Qn) ?_
 refine aj (pC 0 0 1 1 w h (by decide) (by decide) (by decide) (by decide) hw hh) V.pL  rfl .nil rfl ?_
 rintro _ _ ⟨rfl, rfl⟩
 rw [aa.many1 hsd.1, aa.many1 hsd.2.2.1]
 refine cY (PK) [⟨0, 0, 1, 1, w, h⟩] V.sI V.z145 rfl rfl rfl (by kernel_rfl) rfl rfl ?_
 intro b12
 refine rO TT 4 rfl ?_
 exact ag (av rfl) ⟨_, _, rfl, rfl⟩ (sub (ao .nil) ak)
set_option maxHeartbeats 1000000 in
theorem Gn (w h : Int) (hs : aa.aW w h = 0) : aA Tryz.prog 82 [.int .i64 w, .int .i64 h] [] (aF fun v G => ∃ p c, v = .slice p (aa.eW w h).length c ∧ G = [Row PK p (aa.eW w h).length c (aa.eW w h)]) := by
 refine au [(0, _), (1, _)] Tryz.func82 rfl Tryz.ntmps82 rfl rfl ?_
 intro w0 F
 have hsd := aa.jE hs
 have hw : 0 ≤ w ∧ w ≤ 256 := by omega
 have hh : 0 ≤ h ∧ h ≤ 256 := by omega
 obtain ⟨Z, hZ⟩ : ∃ Z, Z = (aa.gX w h).flatMap PK.e := ⟨_, rfl⟩
 have hZl : Z.length = 42 := by rw [hZ]; unfold aa.gX; rfl
 have hZ1 : Z.all Value.oneCell' = true := by rw [hZ]; exact nY PK _
 refine rT TT 10 rfl ?_
 refine aj (mj w h) V.yH  rfl .nil rfl ?_
 rintro _ _ ⟨rfl, rfl⟩
 rw [hs]
 refine (yk)<|(Qn) ?_
 refine aj (pC 0 0 8 8 w h (by decide) (by decide) (by decide) (by decide) hw hh) V.pL  rfl .nil rfl ?_
 rintro _ _ ⟨rfl, rfl⟩
 refine (Q6) ?_
 refine aj (pC 4 0 8 8 w h (by decide) (by decide) (by decide) (by decide) hw hh) V.pL  rfl .nil rfl ?_
 rintro _ _ ⟨rfl, rfl⟩
 refine (Q6) ?_
 refine aj (pC 0 4 4 8 w h (by decide) (by decide) (by decide) (by decide) hw hh) V.pL  rfl .nil rfl ?_
 rintro _ _ ⟨rfl, rfl⟩
 refine (Q6) ?_
 refine aj (pC 2 0 4 4 w h (by decide) (by decide) (by decide) (by decide) hw hh) V.pL  rfl .nil rfl ?_
 rintro _ _ ⟨rfl, rfl⟩
 refine (Q6) ?_
 refine aj (pC 0 2 2 4 w h (by decide) (by decide) (by decide) (by decide) hw hh) V.pL  rfl .nil rfl ?_
 rintro _ _ ⟨rfl, rfl⟩
 refine (Q6) ?_
 refine aj (pC 1 0 2 2 w h (by decide) (by decide) (by decide) (by decide) hw hh) V.pL  rfl .nil rfl ?_
 rintro _ _ ⟨rfl, rfl⟩
 refine (Q6) ?_
 refine aj (pC 0 1 1 2 w h (by decide) (by decide) (by decide) (by decide) hw hh) V.pL  rfl .nil rfl ?_
 rintro _ _ ⟨rfl, rfl⟩
 refine oV (jl V.Jm V.O3 rfl (cs := Z) (by rw [hZ]; kernel_rfl))<|dh V.O3 rfl ?_
 intro b5
 refine cA (bd V.PX rfl rfl (us := Z) (cs' := Z) hZ1 hZl (by exact fO) (by decide) (by rw [List.take_zero, List.nil_append, List.drop_eq_nil_of_le (by decide), List.append_nil]))<|(Qe) ?_
 refine oV (eC V.PX rfl aB (vs := Z) hZl (by rw [List.drop_zero, ← hZl, List.take_length]))<|(Q8) ?_
 rw [show ((6 : Nat), Value.slice none 0 0) = (6, .slice none (aa.il w h 0).length 0) from by rw [aa.Dq]; rfl]
 refine iP (Row PK none (aa.il w h 0).length 0 (aa.il w h 0)) (by rw [aa.Dq]; exact Row.nil _ _ _) ?_
 refine gN (fun (i : Nat) (p6 : Option Addr) (c6 : Nat) => [(6, .slice p6 (aa.il w h i).length c6), (35, .agg Z.toArray), (36, .int .i64 (i : Int))]) (fun (i : Nat) (p6 : Option Addr) (c6 : Nat) => Row PK p6 (aa.il w h i).length c6 (aa.il w h i) :: F) (fun (i : Nat) (p6 : Option Addr) (c6 : Nat) => i ≤ 7) (fun (i : Nat) (p6 : Option Addr) (c6 : Nat) => 7 - i) (i3 (0) (none) (0) ?_ (gL ln) (sub (ao .nil) bu)) ?_
 ·exact Nat.zero_le _
 intro i p6 c6
 rintro hi
 have hpl := aa.GN w h i
 obtain ⟨x, hx⟩ : ∃ x, x = (PK.g (aa.gX w h) (i : Int)) := ⟨_, rfl⟩
 have hx2 : (aa.gX w h).getD i ⟨0, 0, 0, 0, 0, 0⟩ = x := hx.symm
 refine (Qm) ?_
 refine aD rfl (fun h37 => ?_) (fun h37 => ?_)
 ·refine (Qi) ?_
  refine oV (cW (v := .agg #[.int .i64 x.x, .int .i64 x.y, .int .i64 x.dx, .int .i64 x.dy, .int .i64 x.w, .int .i64 x.h]) (Lb PK (aa.gX w h) i V.Jm V.a145 rfl hZ rfl rfl (by omega) (by rw [aa.Gi]; omega) rfl) (by rw [← hx]))<|dh V.z145 rfl ?_
  intro b8
  refine (Pe)<|(Q6) ?_
  rcases (aa.OZ x) with ⟨q1, q2⟩ | ⟨q1, q3, q2⟩ | ⟨q1, q3, q2⟩
  ·refine (sM)<|(Qr) ?_
   refine iD TT 15 rfl (by omega) ?_
   (rw [aa.Df (i := i) (by omega) hx2 q2]; exact j3 (i + 1) _ _ ⟨by omega, by omega⟩ (gL ln) (sub (.cons ax .nil) bu))
  ·refine (sM)<|(Qu)<|(Qj)<|(QQ)<|(Qr)<|(Cw) ?_
   (rw [aa.Df (i := i) (by omega) hx2 q2]; exact j3 (i + 1) _ _ ⟨by omega, by omega⟩ (gL ln) (sub (.cons ax .nil) bu))
  ·refine (sM)<|(Qu)<|(Qj)<|(QQ)<|(Qu)<|(Q1)<|(N2) ?_
   refine cY (PK) [x] V.sI V.z145 rfl rfl rfl (by kernel_rfl) rfl rfl ?_
   intro b49
   refine ew (c := (PK)) V.sI V.z145 rfl rfl rfl rfl bo (own aB) (by omega) rfl ?_
   intro p50 c50
   refine (QG) ?_
   (have hl2 : (aa.il w h i).length + 1 = (aa.il w h (i + 1)).length := (congrArg List.length (aa.Ew (i := i) (p := x) (by omega) hx2 q2)).symm ▸ (by simp)
    rw [aa.Ew (i := i) (p := x) (by omega) hx2 q2, hl2]
    exact j3 (i + 1) _ _ ⟨by omega, by omega⟩ (gL ln) (sub (ao .nil) fV))
 ·refine (Qi) ?_
  obtain rfl : i = 7 := by omega
  rw [aa.Rc]
  refine (Qi) ?_
  exact ag (av rfl) ⟨_, _, rfl, rfl⟩ (sub (ao .nil) ak)
end Go.Proofs.YtmaiakpjgomnpaaGreat
namespace Go.Proofs.YtmaiakpjgomnpaaGreat
open Go.Sl
theorem V.FD : ay Tryz.prog 116 = true := by kernel_rfl
theorem V.Oq : ay Tryz.prog 117 = true := by kernel_rfl
theorem V.XL : ay Tryz.prog 129 = true := by kernel_rfl
theorem V.qf : ay Tryz.prog 19 = true := by kernel_rfl
theorem V.mi : ay Tryz.prog 94 = true := by kernel_rfl
end Go.Proofs.YtmaiakpjgomnpaaGreat
namespace Go.Proofs.YtmaiakpjgomnpaaGreat
open Go.Sl 
attribute [local irreducible] aa.aW aa.many aa.dE aa.fh aa.tJ aa.pD aa.gX aa.il aa.parts aa.deep aa.Yo
set_option maxHeartbeats 1000000 in
theorem Is (w bits : Int) (hw : 0 ≤ w ∧ w ≤ 256) (hb : 0 ≤ bits ∧ bits ≤ 64) : aA Tryz.prog 117 [.int .i64 w, .int .i64 bits] [] (aF fun v G => v = .int .i64 (aa.dE w bits) ∧ G = []) := by
 refine au [(0, _), (1, _)] Tryz.func117 rfl Tryz.ntmps117 rfl rfl ?_
 intro w0 F
 have hr := aa.nc hw hb
 have he : (w * bits + 7) / 8 = (aa.dE w bits) := by unfold aa.dE; rfl
 refine (QV) ?_
 refine aj (xW w true (decide_eq_true hw).symm) V.FD  rfl .nil rfl ?_
 rintro _ _ ⟨rfl, rfl⟩
 refine (Qg) ?_
 refine (Q0) ?_
 refine (QE) ?_
 refine (Qg) ?_
 refine (Q0) ?_
 refine (Qr) ?_
 refine (xf) ?_
 refine (qc) ?_
 refine (Q8) ?_
 exact ag (av rfl) ⟨congrArg (Value.int .i64) he, rfl⟩ (sub .nil ak)
set_option maxHeartbeats 1000000 in
theorem KU (p : Option Addr) (c : Nat) (l : List aa.Ps) (bits : Int) (R : ad) (hR : ∀ w0 h, R w0 h → aE PK p l.length l w0 h) (hl : l.length ≤ 7) (hok : ∀ x ∈ l, aa.jd x) (hb : 0 ≤ bits ∧ bits ≤ 64) : aA Tryz.prog 83 [.slice p l.length c, .int .i64 bits] [R] (aF fun v G => v = .int .i64 (aa.fh l bits) ∧ G = [R]) := by
 refine au [(0, _), (1, _)] Tryz.func83 rfl Tryz.ntmps83 rfl rfl ?_
 intro w0 F
 refine rT TT 10 rfl ?_
 refine (Qr) ?_
 refine (Q6) ?_
 refine (Q0) ?_
 refine (QE) ?_
 refine (Qg) ?_
 refine (Q0) ?_
 refine (Qr) ?_
 refine rO TT 20 rfl ?_
 rw [show ((5 : Nat), Value.int .i64 0) = (5, .int .i64 (aa.fh (l.take 0) bits)) from by rw [List.take_zero]; unfold aa.fh; rfl]
 refine cE (fun (i : Nat) => [(1, .int .i64 bits), (5, .int .i64 (aa.fh (l.take i) bits)), (19, .slice p l.length c), (20, .int .i64 (l.length : Int)), (21, .int .i64 (i : Int))]) (fun (i : Nat) => R :: F) (fun (i : Nat) => i ≤ l.length) (fun (i : Nat) => l.length - i) (i1 (0) ?_ (bP ln) (sub (ao .nil) ak)) ?_
 ·exact Nat.zero_le _
 intro i
 rintro hi
 obtain ⟨x, hx⟩ : ∃ x, x = (PK.g l (i : Int)) := ⟨_, rfl⟩
 refine (Qm) ?_
 refine aD rfl (fun h22 => ?_) (fun h22 => ?_)
 ·refine (Qf) ?_
  have hpo : aa.jd x := hx ▸ aa.Lm hok (i := i) (by omega)
  have hpb := aa.DB hpo hb
  have hbi := aa.va (l := l.take i) hb (fun q hq => hok q (List.mem_of_mem_take hq))
  have hli : (l.take i).length ≤ i := by rw [List.length_take]; omega
  obtain ⟨_, _, _, _, _, _, hw0, hw1, hh0, hh1⟩ := hpo
  have hrn := aa.nc (w := x.w) ⟨hw0, hw1⟩ hb
  refine (Qo) ?_
  refine oV (xI V.sI (by exact bK hR aB))<|oV (cW (v := .agg #[.int .i64 x.x, .int .i64 x.y, .int .i64 x.dx, .int .i64 x.dy, .int .i64 x.w, .int .i64 x.h]) (mZ (c := PK) V.a145 rfl (by exact bK hR aB) (by omega) (by omega) rfl) (by rw [hx]))<|dh V.z145 rfl ?_
  intro b7
  refine (Pe)<|(Q1)<|(Qk) ?_
  refine aj (xW x.w true (decide_eq_true ⟨hw0, hw1⟩).symm) V.FD  rfl .nil rfl ?_
  rintro _ _ ⟨rfl, rfl⟩
  refine (Qd)<|(QQ) ?_
  refine aj (xW x.h true (decide_eq_true ⟨hh0, hh1⟩).symm) V.FD  rfl .nil rfl ?_
  rintro _ _ ⟨rfl, rfl⟩
  refine (Qc) ?_
  rcases (Classical.em (0 < x.w)) with hq | hq
  ·refine (Q4) ?_
   refine (Qk) ?_
   refine (Qu) ?_
   refine (Qg) ?_
   refine wN [pz 0 [] [5], pz 0 [] [7], pz 2 [1] [], pz 0 [] [7], pz 8 [3] [], pz 0 [] [1], pz 56 [4, 5] [], pz 120 [6] [], pz 254 [2, 7] [], pz 511 [0, 8] [], pz 1023 [9] []] [⟨fun y => ai b7 145 [.int .i64 x.x, .int .i64 x.y, .int .i64 x.dx, .int .i64 x.dy, .int .i64 x.w, .int .i64 x.h], none, none, [2, 4]⟩, ⟨fun y => R, none, none, []⟩] F V.mixed ?_
   refine nM ?_
   refine nG V.LU ?_
   refine (Qy) ?_
   refine nG V.PA ?_
   refine (Qy) ?_
   refine nM ?_
   refine nE (fun y FF hA => aV (Post := []) (Is x.w bits ⟨hw0, hw1⟩ hb) V.Oq rfl .nil (fun v G h => by rcases h with ⟨rfl, rfl⟩; exact ⟨rfl, .refl _⟩)) ?_
   refine (Qz) ?_
   refine nV (fun y hA L => gG (r := (x.h * (1 + aa.dE x.w bits))) rfl rfl wI) ?_
   refine (Qz) ?_
   refine nA ?_
   refine (Qb) ?_
   intro y hA
   clear hA
   show ks _ _ _ _ (ai b7 145 [.int .i64 x.x, .int .i64 x.y, .int .i64 x.dx, .int .i64 x.dy, .int .i64 x.w, .int .i64 x.h] :: R :: F)
   refine jh<|bj<|(Qo)<|(zZ)<|(Q7) ?_
   refine c4 ?_
   have ht := aa.rj (l := l) (bits := bits) (i := i) (by omega)
   rw [show l.getD i ⟨0, 0, 0, 0, 0, 0⟩ = x from hx.symm] at ht
   (rw [aa.Tn (by assumption)] at ht; rw [← ht]; exact j1 (i + 1) ⟨by omega, by omega⟩ (bP ln) (sub (.cons ax .nil) bu))
  ·refine (sM)<|(Qr)<|(Ad) ?_
   have ht := aa.rj (l := l) (bits := bits) (i := i) (by omega)
   rw [show l.getD i ⟨0, 0, 0, 0, 0, 0⟩ = x from hx.symm] at ht
   (rw [aa.Sw (by assumption), Int.add_zero] at ht; rw [← ht]; exact j1 (i + 1) ⟨by omega, by omega⟩ (bP ln) (sub (.cons ax .nil) bu))
 ·refine (Qi) ?_
  obtain rfl : i = l.length := by omega
  rw [List.take_length]
  refine (Qi) ?_
  exact ag (av rfl) ⟨rfl, rfl⟩ (sub (ao .nil) ak)
set_option maxHeartbeats 1000000 in
theorem KE (p : Option Addr) (c : Nat) (l : List Int) (R : ad) (hR : ∀ w0 h, R w0 h → aE (aC 3 .i64) p l.length l w0 h) (hl : l.length < 500000000) (x : Int) : aA Tryz.prog 129 [.slice p l.length c, .int .i64 x] [R] (aF fun v G => ∃ r : Int, v = .int .i64 r ∧ (0 ≤ r ↔ x ∈ l) ∧ G = [R]) := by
 refine au [(0, _), (1, _)] Tryz.func129 rfl Tryz.ntmps129 rfl rfl ?_
 intro w0 F
 refine rT TT 14 rfl ?_
 refine cE (fun (i : Nat) => [(0, .slice p l.length c), (1, .int .i64 x), (7, .int .i64 (l.length : Int)), (8, .int .i64 (i : Int))]) (fun (i : Nat) => R :: F) (fun (i : Nat) => i ≤ l.length ∧ ∀ j, j < i → x ≠ l.getD j 0) (fun (i : Nat) => l.length - i) (i1 (0) ?_ (eg ln) (sub (ao .nil) ak)) ?_
 ·exact ⟨Nat.zero_le _, fun j hj => by omega⟩
 intro i
 rintro ⟨hi, hall⟩
 refine (Qm) ?_
 refine aD rfl (fun h9 => ?_) (fun h9 => ?_)
 ·refine (QC) ?_
  rcases (Classical.em (x = ((aC 3 .i64).g l (i : Int)))) with hnx | hnx
  ·refine (Qf)<|(U0) ?_
   refine oV (c9 (dz rfl rfl) hnx)<|(QM) ?_
   exact ag (av rfl) ⟨_, rfl, ⟨fun _ => aa.PG (i := i) (by omega) hnx, fun _ => by omega⟩, rfl⟩ (sub (ao .nil) ak)
  ·refine (Qf)<|(U0) ?_
   refine oV (bS (dz rfl rfl) hnx)<|(Ad) ?_
   refine j1 (i + 1) ?_ (eg ln) (sub (ao .nil) ak)
   exact ⟨⟨by omega, fun j hj => (Nat.lt_succ_iff_lt_or_eq.1 hj).elim (hall j) (fun e => e ▸ hnx)⟩, by omega⟩
 ·refine (ox) ?_
  obtain rfl : i = l.length := by omega
  exact ag (av rfl) ⟨_, rfl, ⟨fun hh => absurd hh (by decide), fun hh => absurd hh (aa.LN hall)⟩, rfl⟩ (sub (ao .nil) ak)
set_option maxHeartbeats 1000000 in
theorem sK (p : Option Addr) (c : Nat) (l : List Int) (R : ad) (hR : ∀ w0 h, R w0 h → aE (aC 3 .i64) p l.length l w0 h) (hl : l.length < 500000000) (x : Int) (t : Bool) (ht : t = decide (x ∈ l)) : aA Tryz.prog 94 [.slice p l.length c, .int .i64 x] [R] (aF fun v G => v = .bool t ∧ G = [R]) := by
 refine au [(0, _), (1, _)] Tryz.func94 rfl Tryz.ntmps94 rfl rfl ?_
 intro w0 F
 refine (QV) ?_
 refine aj (KE p c l R hR hl x) V.XL  rfl (ao .nil) rfl ?_
 rintro _ _ ⟨r7, rfl, hr7, rfl⟩
 refine (Q3) ?_
 rw [aa.Lz ht hr7]
 exact ag (av rfl) ⟨rfl, rfl⟩ (sub (ao .nil) ak)
set_option maxHeartbeats 1000000 in
theorem iy (x : Int) : aA Tryz.prog 19 [.int .i64 x] [] (aF fun v G => v = .int .i64 (aa.parts x) ∧ G = []) := by
 refine au [(0, _)] Tryz.func19 rfl Tryz.ntmps19 rfl rfl ?_
 intro w0 F
 refine (QP) ?_
 rcases (aa.su x) with ⟨a0, hs⟩ | ⟨a0, a1, hs⟩ | ⟨a0, a1, a2, hs⟩ | ⟨a0, a1, a2, a3, hs⟩ | ⟨a0, a1, a2, a3, a4, hs⟩ | ⟨a0, a1, a2, a3, a4, hs⟩
 ·refine (QC)<|(Qv)<|(QM) ?_
  exact ag (av rfl) ⟨congrArg (Value.int .i64) hs.symm, rfl⟩ (sub .nil ak)
 ·refine (QC)<|(QB)<|(Q3)<|(Qv)<|(QI) ?_
  exact ag (av rfl) ⟨congrArg (Value.int .i64) hs.symm, rfl⟩ (sub .nil ak)
 ·refine (QC) ?_
  refine (QB) ?_
  refine (Q3) ?_
  refine (QB) ?_
  refine (Q1) ?_
  refine (Qv) ?_
  refine (QI) ?_
  exact ag (av rfl) ⟨congrArg (Value.int .i64) hs.symm, rfl⟩ (sub .nil ak)
 ·refine (QC) ?_
  refine (QB) ?_
  refine (Q3) ?_
  refine (QB) ?_
  refine (Q1) ?_
  refine (QB) ?_
  refine (Q1) ?_
  refine (Qv) ?_
  refine (QI) ?_
  exact ag (av rfl) ⟨congrArg (Value.int .i64) hs.symm, rfl⟩ (sub .nil ak)
 ·refine (QC) ?_
  refine (QB) ?_
  refine (Q3) ?_
  refine (QB) ?_
  refine (Q1) ?_
  refine (QB) ?_
  refine (Q1) ?_
  refine (QB) ?_
  refine (Q1) ?_
  refine (Qv) ?_
  refine (QI) ?_
  exact ag (av rfl) ⟨congrArg (Value.int .i64) hs.symm, rfl⟩ (sub .nil ak)
 ·refine (QC) ?_
  refine (QB) ?_
  refine (Q3) ?_
  refine (QB) ?_
  refine (Q1) ?_
  refine (QB) ?_
  refine (Q1) ?_
  refine (QB) ?_
  refine (Q1) ?_
  refine (QB) ?_
  refine (Qq) ?_
  exact ag (av rfl) ⟨congrArg (Value.int .i64) hs.symm, rfl⟩ (sub .nil ak)
set_option maxHeartbeats 1000000 in
theorem CL (x d : Int) (t : Bool) (ht : t = decide (aa.deep x d)) : aA Tryz.prog 57 [.int .i64 x, .int .i64 d] [] (aF fun v G => v = .bool t ∧ G = []) := by
 refine au [(0, _), (1, _)] Tryz.func57 rfl Tryz.ntmps57 rfl rfl ?_
 intro w0 F
 refine (QP) ?_
 rcases (aa.Ul x d) with ⟨a0, hs⟩ | ⟨a0, a1, hs⟩ | ⟨a0, a1, a2, hs⟩ | ⟨a0, a1, a2, a3, hs⟩ | ⟨a0, a1, a2, a3, hs⟩
 ·refine (kB)<|(Qv)<|(Q1) ?_
  refine cY (I3) [1, 2, 4, 8, 16] V.cH V.z3 rfl rfl rfl rfl rfl rfl ?_
  intro b8
  refine (Q7) ?_
  refine aj (sK (some ⟨b8, 0, none⟩) 5 [1, 2, 4, 8, 16] (Row (aC 3 .i64) (some ⟨b8, 0, none⟩) 5 5 [1, 2, 4, 8, 16]) (fun _ _ hh => hh.rd) (by decide) d t (ht.trans hs)) V.mi  rfl (ao .nil) rfl ?_
  rintro _ _ ⟨rfl, rfl⟩
  refine (Q1) ?_
  (rw [ht.trans hs]; exact ag (G := []) (av rfl) ⟨rfl, rfl⟩ (sub .nil bu))
 ·refine (kB) ?_
  refine (QB) ?_
  refine (Q1) ?_
  refine (Qv) ?_
  refine (Q1) ?_
  refine cY (I3) [1, 2, 4, 8] V.cH V.z3 rfl rfl rfl rfl rfl rfl ?_
  intro xJ
  refine (Q7) ?_
  refine aj (sK (some ⟨xJ, 0, none⟩) 4 [1, 2, 4, 8] (Row (aC 3 .i64) (some ⟨xJ, 0, none⟩) 4 4 [1, 2, 4, 8]) (fun _ _ hh => hh.rd) (by decide) d t (ht.trans hs)) V.mi  rfl (ao .nil) rfl ?_
  rintro _ _ ⟨rfl, rfl⟩
  refine (Q1) ?_
  (rw [ht.trans hs]; exact ag (G := []) (av rfl) ⟨rfl, rfl⟩ (sub .nil bu))
 ·refine (kB) ?_
  refine (QB) ?_
  refine (Q1) ?_
  refine (QB) ?_
  refine (Qe) ?_
  refine (Nj) ?_
  rintro _ _ ⟨rfl, rfl⟩
  refine (Qr)<|(QI) ?_
  (rw [← ht.trans hs]; exact ag (G := []) (av rfl) ⟨rfl, rfl⟩ (sub .nil ak))
 ·refine (kB) ?_
  refine (QB) ?_
  refine (Q1) ?_
  refine (QB) ?_
  refine (Qe) ?_
  refine (Nj) ?_
  rintro _ _ ⟨rfl, rfl⟩
  refine (Qu)<|(Qj)<|(Qv)<|(Qn) ?_
  (rw [← ht.trans hs]; exact ag (G := []) (av rfl) ⟨rfl, rfl⟩ (sub .nil ak))
 ·refine (kB) ?_
  refine (QB) ?_
  refine (Q1) ?_
  refine (QB) ?_
  refine (Qe) ?_
  refine (Nj) ?_
  rintro _ _ ⟨rfl, rfl⟩
  refine (Qu)<|(Qj)<|(QB)<|(Qn) ?_
  (rw [← ht.trans hs]; exact ag (G := []) (av rfl) ⟨rfl, rfl⟩ (sub .nil ak))
end Go.Proofs.YtmaiakpjgomnpaaGreat
namespace Go.Proofs.YtmaiakpjgomnpaaGreat
open Go.Sl
theorem V.Gm : ay Tryz.prog 130 = true := by kernel_rfl
theorem V.RY : ay Tryz.prog 140 = true := by kernel_rfl
theorem V.Xk : ay Tryz.prog 141 = true := by kernel_rfl
theorem V.FB : ay Tryz.prog 163 = true := by kernel_rfl
theorem V.FQ : ay Tryz.prog 164 = true := by kernel_rfl
theorem V.WA : ay Tryz.prog 165 = true := by kernel_rfl
theorem V.X3 : ay Tryz.prog 61 = true := by kernel_rfl
theorem V.YP : ay Tryz.prog 95 = true := by kernel_rfl
end Go.Proofs.YtmaiakpjgomnpaaGreat
namespace Go.Proofs.YtmaiakpjgomnpaaGreat
open Go.Sl
theorem V.rn : iA Tryz.prog 68 = some (4, 62, 1) := by kernel_rfl
theorem V.XM : ay Tryz.prog 161 = true := by kernel_rfl
theorem V.RE : ay Tryz.prog 172 = true := by kernel_rfl
theorem V.XO : ay Tryz.prog 185 = true := by kernel_rfl
theorem V.rb : ay Tryz.prog 21 = true := by kernel_rfl
theorem V.H5 : ay Tryz.prog 67 = true := by kernel_rfl
theorem V.Ys : ay Tryz.prog 93 = true := by kernel_rfl
theorem V.YL : a8 Tryz.prog 158 0 = some 0 := by kernel_rfl
theorem V.T8 : eF Tryz.prog 158 = some [(0, 4)] := by kernel_rfl
theorem V.W1 : cx Tryz.prog 158 = some ([.slice none 0 0, .slice none 0 0, .int .i64 0, .int .i64 0]) := by kernel_rfl
end Go.Proofs.YtmaiakpjgomnpaaGreat
namespace Go.Proofs.YtmaiakpjgomnpaaGreat
open Go.Sl 
attribute [local irreducible] af.an aa.aW aa.up aa.bO aa.fK
def HW (b : Nat) (B : List Int) (at_ : Nat) (out : List Int) (free : Int) : ad := fun w0 h => ∃ i : Lv, True ∧ bZ w0 [ai b 158 [.slice i.p1 B.length i.c1, .slice i.p2 out.length i.c2, .int .i64 (at_ : Int), .int .i64 free], Row U5 i.p1 B.length i.c1 B, Row U5 i.p2 out.length i.c2 out] h
theorem rS {b at_ : Nat} {p1 p2 : Option Addr} {c1 c2 : Nat} {B out : List Int} {free : Int} {w0 : World} {h : Hp}
  (hh : bZ w0 [ai b 158 [.slice p1 B.length c1, .slice p2 out.length c2, .int .i64 (at_ : Int), .int .i64 free], Row U5 p1 B.length c1 B, Row U5 p2 out.length c2 out] h) : HW b B at_ out free w0 h := ⟨⟨p1, c1, p2, c2⟩, trivial, hh⟩
theorem Lh (b : Nat) (B : List Int) (at_ : Nat) (out : List Int) (free : Int) (hl : B.length < 500000000) (ha : at_ ≤ 8 * B.length) : aA Tryz.prog 128 [.pointer (some ⟨b, 0, none⟩)] [HW b B at_ out free] (aF fun v G => v = .int .i64 (8 * (B.length : Int) - (at_ : Int)) ∧ G = [HW b B at_ out free]) := by
 refine au [(0, _)] Tryz.func128 rfl Tryz.ntmps128 rfl rfl ?_
 intro w0 F
 refine (qa) ?_
 rintro ⟨p1, c1, p2, c2⟩ _
 dsimp only
 refine (QU) ?_
 refine (so) ?_
 refine rR TT 3 rfl ?_
 refine (HF) ?_
 refine Ny TT 5 rfl (by omega) ?_
 refine oR (az V.s3 rfl aB rfl) ?_
 refine Ny TT 2 rfl (by omega) ?_
 refine Rg.c4 ?_
 refine rN TT 2 rfl ?_
 exact ag (av rfl) ⟨rfl, rfl⟩ (aM (eU .nil) ak (fun w0 h hh => rS hh))
theorem M0 (b : Nat) (B : List Int) (at_ : Nat) (out : List Int) (free : Int) (n : Int) (hl : B.length < 500000000) (ha : at_ ≤ 8 * B.length) (hn : 0 ≤ n ∧ n ≤ 24 ∧ n ≤ 8 * (B.length : Int) - at_) : aA Tryz.prog 92 [.pointer (some ⟨b, 0, none⟩), .int .i64 n] [HW b B at_ out free] (aF fun v G => v = .tuple #[] ∧ G = [HW b B at_ out free]) := by
 refine (Px) ?_
 intro w0 F
 refine rT TT 3 rfl ?_
 refine (QE) ?_
 refine (Q6) ?_
 refine (Q0) ?_
 refine (Qr) ?_
 refine (Q8) ?_
 refine (Q0) ?_
 refine aj (Lh b B at_ out free hl ha) V.MQ  rfl (ao .nil) rfl ?_
 rintro _ _ ⟨rfl, rfl⟩
 refine (Q0)<|(Qr)<|(Q3) ?_
 exact gn eH ⟨rfl, rfl⟩ (sub (ao .nil) ak)
theorem LG (b : Nat) (B : List Int) (at_ : Nat) (out : List Int) (free : Int) (hl : B.length < 500000000) (hB : af.an B) (ha : at_ < 8 * B.length) : aA Tryz.prog 93 [.pointer (some ⟨b, 0, none⟩)] [HW b B at_ out free] (aF fun v G => v = .int .i64 (aa.fK B at_) ∧ G = [HW b B (at_ + 1) out free]) := by
 refine au [(0, _)] Tryz.func93 rfl Tryz.ntmps93 rfl rfl ?_
 intro w0 F
 refine (qa) ?_
 rintro ⟨p1, c1, p2, c2⟩ _
 dsimp only
 have hq : U5.g B ((at_ : Int) / 8) = B.getD (at_ / 8) 0 := gE (at_ / 8) (by omega)
 have hb := hB.get (at_ / 8)
 have hd := af.xA hb.1 hb.2 (7 - at_ % 8)
 have hb2 := aa.qI B at_
 have hbd : B.getD (at_ / 8) 0 / 2 ^ (7 - at_ % 8) % 2 = aa.fK B at_ := by unfold aa.fK; rfl
 refine (QU)<|(so) ?_
 refine rR TT 4 rfl<|(HF) ?_
 refine rR TT 4 rfl<|oR (az V.s3 rfl aB rfl)<|oR (iJ rfl rfl (by omega) (rH (by omega) (by omega) (by omega)))<|oR (xI V.bE (own dC))<|oR (xL V.s5 (own dC))<|rR TT 4 rfl<|oR (az V.s3 rfl aB rfl)<|oR (jW rfl rfl (by omega) (lh (by omega)))<|Ny TT 1 rfl (by omega)<|oR (dN (r := B.getD (at_ / 8) 0 / 2 ^ (7 - at_ % 8)) rfl rfl (by omega) (by rw [hq]; exact af.RV hb.1 (by omega) (by omega)))<|oR (iN rfl)<|Rg.c4<|rN TT 7 rfl<|(Qk)<|(ri)<|(pY)<|(Q3) ?_
 refine oV (jk (r := aa.fK B at_) rfl rfl ((af.yT hd.1 hd.2).trans hbd))<|(QN)<|(Q8) ?_
 rw [show (at_ : Int) + 1 = ((at_ + 1 : Nat) : Int) from by omega]
 exact ag (av rfl) ⟨rfl, rfl⟩ (aM (eU .nil) ak (fun w0 h hh => rS hh))
theorem jC (b : Nat) (B : List Int) (at_ : Nat) (out : List Int) (free : Int) (n : Nat) (hl : B.length < 500000000) (hB : af.an B) (hn : n ≤ 24) (ha : at_ + n ≤ 8 * B.length) : aA Tryz.prog 56 [.pointer (some ⟨b, 0, none⟩), .int .i64 (n : Int)] [HW b B at_ out free] (aF fun v G => v = .int .i64 (aa.bO B at_ n) ∧ G = [HW b B (at_ + n) out free]) := by
 refine au [(0, _), (1, _)] Tryz.func56 rfl Tryz.ntmps56 rfl rfl ?_
 intro w0 F
 refine rT TT 11 rfl<|aj (M0 b B at_ out free n hl (by omega) (by omega)) V.NM  rfl (ao .nil) rfl ?_
 rintro _ _ ⟨rfl, rfl⟩
 refine (QM) ?_
 rw [show ((5 : Nat), Value.int .i64 0) = (5, .int .i64 (aa.bO B at_ 0)) from by unfold aa.bO; rfl]
 refine cE (fun (k : Nat) => [(0, .pointer (some ⟨b, 0, none⟩)), (5, .int .i64 (aa.bO B at_ k)), (11, .int .i64 (n : Int)), (12, .int .i64 (k : Int))]) (fun (k : Nat) => HW b B (at_ + k) out free :: F) (fun (k : Nat) => k ≤ n) (fun (k : Nat) => n - k) (i1 (0) ?_ (eg ln) (sub (ao .nil) ak)) ?_
 ·exact Nat.zero_le _
 intro k
 rintro hk
 refine (Qm) ?_
 refine aD rfl (fun h13 => ?_) (fun h13 => ?_)
 ·refine (Q5) ?_
  have hb := aa.qI B (at_ + k)
  have hnb := aa.uK B at_ (n := k) (by omega)
  refine (Q9) ?_
  refine oV (gA (r := 2 * (aa.bO B at_ k)) rfl rfl (by decide) (aa.Ui (by omega)))<|(Q7) ?_
  refine aj (LG b B (at_ + k) out free hl hB (by omega)) V.Ys  rfl (ao .nil) rfl ?_
  rintro _ _ ⟨rfl, rfl⟩
  refine oV (mT (r := (aa.bO B at_ (k + 1))) rfl rfl (aa.Y6 (by omega)))<|(QG) ?_
  refine j1 (k + 1) ?_ (eg ln) (sub (ao .nil) ak)
  exact ⟨by omega, by omega⟩
 ·refine rC TT 12 rfl ?_
  obtain rfl : k = n := by omega
  exact ag (av rfl) ⟨rfl, rfl⟩ (sub (ao .nil) ak)
theorem w3 (p : Option Addr) (cap : Nat) (B : List Int) (R : ad) (hR : ∀ w0 h, R w0 h → aE U5 p B.length B w0 h) (hl : B.length < 500000000) : aA Tryz.prog 54 [.slice p B.length cap] [R] (aF fun v G => ∃ b, v = .pointer (some ⟨b, 0, none⟩) ∧ G = [HW b B 0 [] 0, R]) := by
 refine au [(0, _)] Tryz.func54 rfl Tryz.ntmps54 rfl rfl ?_
 intro w0 F
 refine (QH) ?_
 refine aj (np p cap B R hR hl) V.zV  rfl (ao .nil) rfl ?_
 rintro _ _ ⟨q, c, rfl, rfl⟩
 refine (VJ) ?_
 refine oV (cR V.T8 V.W1 rfl (cs := [.slice q B.length c, .slice none 0 0, .int .i64 0, .int .i64 0]) rfl)<|(VX) ?_
 intro b7
 refine (Q8) ?_
 exact ag (av rfl) ⟨b7, rfl, rfl⟩ ((da (A := Row U5 none 0 0 []) (fun w0 => Row.nil _ _ _)).trans ((aM (.cons ax (.cons ax (ao .nil))) ak (fun w0 h hh => rS (p1 := q) (c1 := c) (p2 := none) (c2 := 0) (B := B) (out := []) (at_ := 0) (free := 0) hh)).trans (sub (aO .nil) ak)))
theorem ZB (w h ar : Int) (ba : Bool) (d x : Int) (hd : aa.im d) (hx : 0 ≤ x ∧ x < 2 ^ d.toNat) : aA Tryz.prog 90 [.agg #[.int .i64 w, .int .i64 h, .int .i64 d, .int .i64 ar, .bool ba], .int .i64 x] [] (aF fun v G => v = .int .u16 (aa.up d x) ∧ G = []) := by
 refine au [(0, _), (1, _)] Tryz.func90 rfl Tryz.ntmps90 rfl rfl ?_
 intro w0 F
 obtain ⟨P, hP⟩ : ∃ P : Int, P = 2 ^ d.toNat := ⟨_, rfl⟩
 have hpb : 2 ≤ P ∧ P ≤ 65536 := hP ▸ aa.lM hd
 have hdi := aa.iT hd
 have hxP : x < P := hP ▸ hx.2
 have hui := aa.BW hd hx.1 hx.2
 have hq := Int.ediv_le_self (P - 1) (by decide : (0 : Int) ≤ 65535)
 have hq0 : 0 ≤ 65535 / (P - 1) := Int.ediv_nonneg (by decide) (by omega)
 refine (Qt) ?_
 refine iI rfl (cs := [_, _, _, _, _]) rfl rfl ?_
 intro b2
 refine (Qc)<|(Qk)<|(CX)<|(D6) ?_
 refine iD TT 1 rfl (by omega)<|(U2)<|(U9)<|(Q8) ?_
 exact ag (av rfl) ⟨rfl, rfl⟩ (sub .nil bu)
set_option maxHeartbeats 1000000 in
theorem He (d : Int) (hd : aa.im d) : aA Tryz.prog 185 [.int .i64 d] [] (aF fun v G => v = .bool true ∧ G = []) := by
 refine au [(0, _)] Tryz.func185 rfl Tryz.ntmps185 rfl rfl ?_
 intro w0 F
 refine (QP) ?_
 rcases (aa.LD hd) with rfl | ⟨q0, rfl⟩ | ⟨q0, q1, rfl⟩ | ⟨q0, q1, q2, rfl⟩ | ⟨q0, q1, q2, q3, rfl⟩
 ·refine (QC)<|(xX)<|(QM) ?_
  exact ag (av rfl) ⟨rfl, rfl⟩ (sub .nil ak)
 ·refine (QC)<|(oJ)<|(Q1)<|(xX)<|(QM) ?_
  exact ag (av rfl) ⟨rfl, rfl⟩ (sub .nil ak)
 ·refine (QC)<|(oJ)<|(Q1)<|(oJ)<|(Q1)<|(xX)<|(QM) ?_
  exact ag (av rfl) ⟨rfl, rfl⟩ (sub .nil ak)
 ·refine (QC)<|(oJ)<|(Q1)<|(oJ)<|(Q1)<|(oJ)<|(Q1)<|(xX)<|(QM) ?_
  exact ag (av rfl) ⟨rfl, rfl⟩ (sub .nil ak)
 ·refine (QC)<|(oJ)<|(Q1)<|(oJ)<|(Q1)<|(oJ)<|(Q1)<|(oJ)<|(Q3)<|(xX)<|(QI) ?_
  exact ag (av rfl) ⟨rfl, rfl⟩ (sub .nil ak)
set_option maxHeartbeats 1000000 in
theorem NZ (d x : Int) (hd : aa.im d) (hx : 0 ≤ x ∧ x < 2 ^ d.toNat) : aA Tryz.prog 172 [.int .i64 x, .int .i64 d] [] (aF fun v G => v = .tuple #[.int .u16 (aa.up d x), .bool true] ∧ G = []) := by
 refine au [(0, _), (1, _)] Tryz.func172 rfl Tryz.ntmps172 rfl rfl ?_
 intro w0 F
 obtain ⟨P, hP⟩ : ∃ P : Int, P = 2 ^ d.toNat := ⟨_, rfl⟩
 have hpb : 2 ≤ P ∧ P ≤ 65536 := hP ▸ aa.lM hd
 have hdi := aa.iT hd
 have hxP : x < P := hP ▸ hx.2
 have hui := aa.BW hd hx.1 hx.2
 have hq := Int.ediv_le_self (P - 1) (by decide : (0 : Int) ≤ 65535)
 have hq0 : 0 ≤ 65535 / (P - 1) := Int.ediv_nonneg (by decide) (by omega)
 refine rT TT 10 rfl<|aj (He d hd) V.XO  rfl .nil rfl ?_
 rintro _ _ ⟨rfl, rfl⟩
 refine (Qd)<|(QE)<|(QF)<|(D6)<|(Q0)<|(oO)<|(Qe)<|(D6) ?_
 refine iD TT 1 rfl (by omega)<|(U2)<|(U9)<|(Q3) ?_
 exact ag (ev rfl rfl) ⟨rfl, rfl⟩ (sub .nil ak)
theorem tp (x : Int) (hx : 0 ≤ x ∧ x < 256) : aA Tryz.prog 184 [.int .u8 x] [] (aF fun v G => v = .int .u16 (x * 257) ∧ G = []) := by
 refine au [(0, _)] Tryz.func184 rfl Tryz.ntmps184 rfl rfl ?_
 intro w0 F
 refine (QH)<|(QN) ?_
 refine aj (NZ 8 x (.inr (.inr (.inr (.inl rfl)))) hx) V.RE  rfl .nil rfl ?_
 rintro _ _ ⟨rfl, rfl⟩
 rw [aa.Ze]
 refine (QK) ?_
 exact ag (av rfl) ⟨rfl, rfl⟩ (sub .nil ak)
set_option maxHeartbeats 1000000 in
theorem WS (w h : Int) (hs : aa.aW w h = 0) (q : Option Addr) (n c : Nat) (hn : (n : Int) = 4 * w * h) (xx yy : Int) (hx : 0 ≤ xx ∧ xx < w) (hy : 0 ≤ yy ∧ yy < h) : aA Tryz.prog 161 [.agg #[.int .i64 w, .int .i64 h, .slice q n c], .int .i64 xx, .int .i64 yy] [] (aF fun v G => v = .tuple #[.int .i64 (4 * (yy * w + xx)), .bool true] ∧ G = []) := by
 refine au [(0, _), (1, _), (2, _)] Tryz.func161 rfl Tryz.ntmps161 rfl rfl ?_
 intro w0 F
 have hsd := aa.jE hs
 have hp := aa.wz hx hy
 have h44 : 4 * w * h = 4 * (w * h) := Int.mul_assoc _ _ _
 refine (Qt)<|(tt) ?_
 intro b3
 refine (Q1)<|(wT) ?_
 refine aj (S9 w h q n c true (decide_eq_true ⟨hs, hn⟩).symm) V.H5  rfl .nil rfl ?_
 rintro _ _ ⟨rfl, rfl⟩
 refine (Q6) ?_
 refine (Q0) ?_
 refine (QO) ?_
 refine (Q8) ?_
 refine (Q0) ?_
 refine (Qk) ?_
 refine (Q0) ?_
 refine (QY) ?_
 refine (Qg) ?_
 refine (Q0) ?_
 refine (QO) ?_
 refine (Q8) ?_
 refine (Q0) ?_
 refine (Qk) ?_
 refine (Q0) ?_
 refine (QY) ?_
 refine (Ql) ?_
 refine (Qk) ?_
 refine (Ad) ?_
 exact ag (ev rfl rfl) ⟨rfl, rfl⟩ (sub .nil bu)
set_option maxHeartbeats 2000000 in
theorem S7 (w h : Int) (hs : aa.aW w h = 0) (q : Option Addr) (n c : Nat) (hn : (n : Int) = 4 * w * h) (hcap : n ≤ c) (l : List Int) (xx yy : Int) (hx : 0 ≤ xx ∧ xx < w) (hy : 0 ≤ yy ∧ yy < h) (c0 c1 c2 c3 : Int) : aA Tryz.prog 152 [.agg #[.int .i64 w, .int .i64 h, .slice q n c], .int .i64 xx, .int .i64 yy, .agg #[.int .u16 c0, .int .u16 c1, .int .u16 c2, .int .u16 c3]] [Row (aC 62 .u16) q n c l] (aF fun v G => v = .bool true ∧ G = [Row (aC 62 .u16) q n c (aa.kN w l xx yy [c0, c1, c2, c3])]) := by
 refine au [(0, _), (1, _), (2, _), (3, _)] Tryz.func152 rfl Tryz.ntmps152 rfl rfl ?_
 intro w0 F
 have hsd := aa.jE hs
 have hp := aa.wz hx hy
 have h44 : 4 * w * h = 4 * (w * h) := Int.mul_assoc _ _ _
 refine (Qt)<|(tt) ?_
 intro b4
 refine iI rfl (cs := CA [] .u16 [c0, c1, c2, c3] []) rfl rfl ?_
 intro b7
 refine (Q3)<|(q9)<|(Q6) ?_
 refine aj (WS w h hs q n c hn xx yy hx hy) V.XM  rfl .nil rfl ?_
 rintro _ _ ⟨rfl, rfl⟩
 refine (QK) ?_
 refine wN [pz 0 [] [4], pz 1 [0] [], pz 0 [] [9], pz 7 [1, 2] [], pz 0 [] [7], pz 31 [3, 4] []] [⟨fun y => ai b7 68 (CA [] .u16 [c0, c1, c2, c3] []), none, none, [5]⟩, ⟨fun y => ai b4 26 [.int .i64 w, .int .i64 h, .slice q n c], none, none, [1]⟩, ⟨fun y => Row (aC 62 .u16) q n c l, none, some 5, []⟩, ⟨fun y => Row (aC 62 .u16) q n c (aa.kN w l xx yy [c0, c1, c2, c3]), some 5, none, []⟩] F V.mixed ?_
 refine nG V.vS ?_
 refine (P5) ?_
 refine nM ?_
 refine nV (fun y hA L => eh ((4 * (yy * w + xx))).toNat _ _ V.hG rfl ⟨_, (show aq _ _ = some (.int _ (4 * (yy * w + xx))) from rfl).trans (by rw [Int.toNat_of_nonneg (by omega)])⟩ ⟨rfl, rfl⟩ rfl (by omega) (by omega) (by omega)) ?_
 refine nV (fun y hA L => C4 V.rn rfl) ?_
 refine nE (fun y FF hA => FP (LY (c := (aC 62 .u16)) (k := (4 * (yy * w + xx)).toNat) (n := n) (cap := c) (l := l) (ws := [c0, c1, c2, c3]) (cnt := 4) rfl V.hG rfl rfl gh.head (Y4 (by exact .head _)) (by omega) (by omega) (by omega) (by omega)) (.refl _)) ?_
 refine (Qb) ?_
 intro y hA
 clear hA
 refine bj<|bD _ (.cons (d := 10) rfl (.nil _))<|a7 (M := ai b7 68 (CA [] .u16 [c0, c1, c2, c3] []) :: ai b4 26 [.int .i64 w, .int .i64 h, .slice q n c] :: Row (aC 62 .u16) q n c (aa.kN w l xx yy [c0, c1, c2, c3]) :: F) (fun _ _ h => h)<|(Qs) ?_
 exact ag (av rfl) ⟨rfl, rfl⟩ (sub (.cons bo .nil) fV)
end Go.Proofs.YtmaiakpjgomnpaaGreat
namespace Go.Proofs.YtmaiakpjgomnpaaGreat
open Go.Sl
theorem V.nq : fX Tryz.prog 35 = some 5 := by kernel_rfl
theorem V.ml : fX Tryz.prog 68 = some 4 := by kernel_rfl
theorem V.Re : ay Tryz.prog 54 = true := by kernel_rfl
theorem V.Wr : ay Tryz.prog 55 = true := by kernel_rfl
theorem V.sx : ay Tryz.prog 56 = true := by kernel_rfl
theorem V.V1 : ay Tryz.prog 57 = true := by kernel_rfl
theorem V.BP : a8 Tryz.prog 35 0 = some 0 := by kernel_rfl
theorem V.tl : a8 Tryz.prog 35 1 = some 1 := by kernel_rfl
theorem V.vW : a8 Tryz.prog 35 2 = some 2 := by kernel_rfl
theorem V.qg : a8 Tryz.prog 35 3 = some 3 := by kernel_rfl
theorem V.Zv : a8 Tryz.prog 35 4 = some 4 := by kernel_rfl
theorem V.OH : eF Tryz.prog 35 = some [(0, 1), (1, 1), (2, 1), (3, 1), (4, 1)] := by kernel_rfl
theorem V.NO : cg Tryz.prog 105 = true := by kernel_rfl
theorem V.l9 : cg Tryz.prog 62 = true := by kernel_rfl
theorem V.z105 : cx Tryz.prog 105 = some ([.pointer none]) := by kernel_rfl
theorem V.vC : cx Tryz.prog 35 = some ([.int .i64 0, .int .i64 0, .int .i64 0, .int .i64 0, .bool false]) := by kernel_rfl
theorem V.wJ : cx Tryz.prog 68 = some ([.int .u16 0, .int .u16 0, .int .u16 0, .int .u16 0]) := by kernel_rfl
end Go.Proofs.YtmaiakpjgomnpaaGreat
namespace Go.Proofs.YtmaiakpjgomnpaaGreat
open Go.Sl 
attribute [local irreducible] af.an aa.aW aa.up aa.bO aa.fK aa.D5 aa.eJ aa.jj aa.deep aa.parts HW
abbrev HV (h : aa.Hd) : Value := .agg #[.int .i64 h.w, .int .i64 h.h, .int .i64 h.dep, .int .i64 h.ar, .bool h.ba]
set_option maxHeartbeats 2000000 in
theorem RR (w1 h1 : Int) (q1 : Option Addr) (n1 c1 : Nat) (L1 : List Int) (hn1 : L1.length = n1) (R1 : ad) (hR1 : ∀ w0 h, R1 w0 h → aE (aC 62 .u16) q1 n1 L1 w0 h) (w2 h2 : Int) (q2 : Option Addr) (n2 c2 : Nat) (L2 : List Int) (hn2 : L2.length = n2) (R2 : ad) (hR2 : ∀ w0 h, R2 w0 h → aE (aC 62 .u16) q2 n2 L2 w0 h) (hs1 : n1 ≤ 100000000) (t : Bool) (ht : t = decide (aa.jj w1 h1 n1 w2 h2 n2 L1 L2)) : aA Tryz.prog 23 [.agg #[.int .i64 w1, .int .i64 h1, .slice q1 n1 c1], .agg #[.int .i64 w2, .int .i64 h2, .slice q2 n2 c2]] [R1, R2] (aF fun v G => v = .bool t ∧ G = [R1, R2]) := by
 refine au [(0, _), (1, _)] Tryz.func23 rfl Tryz.ntmps23 rfl rfl ?_
 intro w0 F
 refine (Qt)<|(tt) ?_
 intro b2
 refine (tt) ?_
 intro b3
 refine (Qg) ?_
 rcases (aa.TB w1 h1 n1 w2 h2 n2 L1 L2) with ⟨a, hs⟩ | ⟨a, a2, hs⟩ | ⟨a, a2, a3, hs⟩ | ⟨a, a2, a3, a4, hs⟩ | ⟨a, a2, a3, a4, a5⟩
 ·refine (Q4)<|(q9) ?_
  refine aj (vL w1 h1 q1 n1 c1 false (decide_eq_false a).symm) V.rb  rfl .nil rfl ?_
  rintro _ _ ⟨rfl, rfl⟩
  refine rO TT 30 rfl ?_
  obtain rfl : t = false := ht.trans (decide_eq_false hs)
  exact ag (av rfl) ⟨rfl, rfl⟩ (sub (.cons bo (.cons bo .nil)) fV)
 ·refine (Q4)<|(q9)<|(HU) ?_
  rintro _ _ ⟨rfl, rfl⟩
  refine (Qj)<|(wT)<|(Q0) ?_
  refine aj (vL w2 h2 q2 n2 c2 false (decide_eq_false a2).symm) V.rb  rfl .nil rfl ?_
  rintro _ _ ⟨rfl, rfl⟩
  refine rO TT 26 rfl ?_
  obtain rfl : t = false := ht.trans (decide_eq_false hs)
  exact ag (av rfl) ⟨rfl, rfl⟩ (sub (.cons bo (.cons bo .nil)) fV)
 ·refine (Q4)<|(q9)<|(HU) ?_
  rintro _ _ ⟨rfl, rfl⟩
  refine (Qj)<|(wT)<|(Q0)<|(Ov) ?_
  rintro _ _ ⟨rfl, rfl⟩
  refine (QF)<|(QW)<|(Q0)<|(Ep)<|(Q0)<|(QQ) ?_
  refine oV (c9 (cG rfl rfl) a3)<|rO TT 18 rfl ?_
  obtain rfl : t = false := ht.trans (decide_eq_false hs)
  exact ag (av rfl) ⟨rfl, rfl⟩ (sub (.cons bo (.cons bo .nil)) fV)
 ·refine (Q4)<|(q9)<|(HU) ?_
  rintro _ _ ⟨rfl, rfl⟩
  refine (Qj)<|(wT)<|(Q0)<|(Ov) ?_
  rintro _ _ ⟨rfl, rfl⟩
  refine (QF)<|(QW)<|(Q0)<|(Ep)<|(Q0)<|(QQ) ?_
  refine oV (bS (cG rfl rfl) (fun hh => hh a3))<|(Qd)<|(QW)<|(Q0)<|(HE)<|(Q0)<|(QQ) ?_
  refine oV (c9 (cG rfl rfl) a4)<|(Qp) ?_
  obtain rfl : t = false := ht.trans (decide_eq_false hs)
  exact ag (av rfl) ⟨rfl, rfl⟩ (sub (.cons bo (.cons bo .nil)) fV)
 ·refine (Q4)<|(q9)<|(HU) ?_
  rintro _ _ ⟨rfl, rfl⟩
  refine (Qj)<|(wT)<|(Q0)<|(Ov) ?_
  rintro _ _ ⟨rfl, rfl⟩
  refine (QF)<|(QW)<|(Q0)<|(Ep)<|(Q0)<|(QQ) ?_
  refine oV (bS (cG rfl rfl) (fun hh => hh a3))<|(Qd)<|(QW)<|(Q0)<|(HE)<|(Q0)<|(QQ) ?_
  refine oV (bS (cG rfl rfl) (fun hh => hh a4))<|(Qq) ?_
  refine cE (fun (i : Nat) => [(2, .pointer (some ⟨b2, 0, none⟩)), (3, .pointer (some ⟨b3, 0, none⟩)), (5, .int .i64 (i : Int))]) (fun (i : Nat) => ai b3 26 [.int .i64 w2, .int .i64 h2, .slice q2 n2 c2] :: ai b2 26 [.int .i64 w1, .int .i64 h1, .slice q1 n1 c1] :: R1 :: R2 :: F) (fun (i : Nat) => i ≤ n1 ∧ ∀ j, j < i → L1.getD j 0 = L2.getD j 0) (fun (i : Nat) => n1 - i) (i1 (0) ?_ (gL ln) (sub (mf .nil) ak)) ?_
  ·exact ⟨Nat.zero_le _, fun j hj => by omega⟩
  intro i
  rintro ⟨hi, hall⟩
  refine rL TT 5 rfl<|(zp)<|(Q8) ?_
  refine aD rfl (fun h32 => ?_) (fun h32 => ?_)
  ·refine (Q5) ?_
   rcases (Classical.em (((aC 62 .u16).g L1 (i : Int)) ≠ ((aC 62 .u16).g L2 (i : Int)))) with hne | hne
   ·refine (Qa)<|(so)<|(IJ) ?_
    refine oR (az V.sE rfl dC rfl)<|(pg)<|(Uv)<|(IJ) ?_
    refine oR (az V.sE rfl aB rfl)<|(pg)<|(VG) ?_
    refine oR (c9 (cG rfl rfl) hne)<|Rg.c4<|rN TT 13 rfl ?_
    obtain rfl : t = false := ht.trans (decide_eq_false (fun hh => aa.Jg hne (by unfold aa.jj at hh; exact hh.2.2.2.2)))
    exact ag (av rfl) ⟨rfl, rfl⟩ (sub (.cons bo (.cons bo .nil)) fV)
   ·refine (Qa)<|(so)<|(IJ) ?_
    refine oR (az V.sE rfl dC rfl)<|(pg)<|(Uv)<|(IJ) ?_
    refine oR (az V.sE rfl aB rfl)<|(pg)<|(VG) ?_
    refine oR (bS (cG rfl rfl) hne)<|Rg.c4<|M7 TT 10 rfl (by omega) ?_
    refine j1 (i + 1) ?_ (gL ln) (sub (mf .nil) ak)
    exact ⟨⟨by omega, fun j hj => (Nat.lt_succ_iff_lt_or_eq.1 hj).elim (hall j) (fun e => e ▸ Classical.not_not.1 hne)⟩, by omega⟩
  ·refine (ox) ?_
   obtain rfl : t = true := ht.trans (decide_eq_true (by unfold aa.jj; exact ⟨a, a2, a3, a4, aa.CR (by omega) (fun j hj => hall j (by omega))⟩))
   exact ag (av rfl) ⟨rfl, rfl⟩ (sub (.cons bo (.cons bo .nil)) fV)
set_option maxHeartbeats 1000000 in
theorem Cp (b b4 : Nat) (B : List Int) (out : List Int) (free : Int) (hl : B.length < 500000000) (hB : af.an B) (j : Nat) (hj : j + 4 ≤ B.length) : aA Tryz.prog 55 [.pointer (some ⟨b4, 0, none⟩)] [HW b B (8 * j) out free, ai b4 105 [.pointer (some ⟨b, 0, none⟩)]] (aF fun v G => v = .int .i64 (aG.cZ (B.drop j)) ∧ G = [HW b B (8 * j + 32) out free, ai b4 105 [.pointer (some ⟨b, 0, none⟩)]]) := by
 refine au [(0, _)] Tryz.func55 rfl Tryz.ntmps55 rfl rfl ?_
 intro w0 F
 have h1 := aa.Bi B (8 * j)
 have h2 := aa.Bi B (8 * j + 16)
 refine (QU) ?_
 refine wN [pz 0 [] [0], pz 1 [0] [], pz 3 [1] [], pz 0 [] [0], pz 11 [3] [], pz 31 [2, 4] [], pz 63 [5] []] [⟨fun y => HW b B (8 * j) out free, none, some 1, []⟩, ⟨fun y => ai b4 105 [.pointer (some ⟨b, 0, none⟩)], none, none, [0, 3]⟩, ⟨fun y => HW b B (8 * j + 16) out free, some 1, some 4, []⟩, ⟨fun y => HW b B (8 * j + 16 + 16) out free, some 4, none, []⟩] F V.mixed ?_
 refine (yK) ?_
 refine nE (fun y FF hA => aV (Post := [HW b B (8 * j + 16) out free]) (jC b B (8 * j) out free 16 hl hB (by decide) (by omega)) V.sx rfl (ao .nil) (fun v G h => by rcases h with ⟨rfl, rfl⟩; exact ⟨rfl, .refl _⟩)) ?_
 refine nV (fun y hA L => gA (r := (aa.bO B (8 * j) 16) * 65536) rfl rfl (by decide) (aG.FL (n := 16) rfl (by decide) rfl (by omega) (by omega))) ?_
 refine (yK) ?_
 refine nE (fun y FF hA => aV (Post := [HW b B (8 * j + 16 + 16) out free]) (jC b B (8 * j + 16) out free 16 hl hB (by decide) (by omega)) V.sx rfl (ao .nil) (fun v G h => by rcases h with ⟨rfl, rfl⟩; exact ⟨rfl, .refl _⟩)) ?_
 refine nV (fun y hA L => mT (r := (aa.bO B (8 * j) 16) * 65536 + (aa.bO B (8 * j + 16) 16)) rfl rfl (aG.uI (u := (aa.bO B (8 * j) 16)) (n := 16) rfl h1.1 (by omega) (by omega))) ?_
 refine nA ?_
 refine (Qb) ?_
 intro y hA
 clear hA
 refine bj<|bD _ (.cons (d := 1) rfl (.nil _))<|a7 (M := ai b4 105 [.pointer (some ⟨b, 0, none⟩)] :: HW b B (8 * j + 16 + 16) out free :: F) (fun _ _ h => h)<|(Qa) ?_
 exact ag (av rfl) ⟨congrArg (Value.int .i64) (aa.Rx hB j), rfl⟩ (sub (.cons ax (ao .nil)) ak)
set_option maxHeartbeats 4000000 in
theorem RG (p : Option Addr) (c : Nat) (B : List Int) (R : ad) (hR : ∀ w0 h, R w0 h → aE U5 p B.length B w0 h) (hB : af.an B) : aA Tryz.prog 17 [.slice p B.length c] [R] (aF fun v G => v = .tuple #[HV (aa.N0 B), .int .i64 (aa.eJ B)] ∧ G = [R]) := by
 refine au [(0, _)] Tryz.func17 rfl Tryz.ntmps17 rfl rfl ?_
 intro w0 F
 have hb8 := hB.get 8
 have hb9 := hB.get 9
 have hb10 := hB.get 10
 have hb11 := hB.get 11
 have hb12 := hB.get 12
 refine (Qt) ?_
 refine dh V.vC rfl ?_
 intro b2
 refine (Qg) ?_
 rcases (Classical.em (B.length ≠ 13)) with h0 | h0
 ·refine (Qf)<|(OT)<|(Q3)<|(yz)<|(vq)<|(Q3) ?_
  exact ag (dU V.nq rfl aB rfl rfl) ⟨by rw [aa.CB h0, aa.nJ (aa.CB h0) (by decide)]; rfl, rfl⟩ (sub (.cons ax .nil) bu)
 ·refine (Qf)<|(yk)<|(Ql) ?_
  refine aj (w3 p c B R hR (by omega)) V.Re  rfl (.cons ax .nil) rfl ?_
  rintro _ _ ⟨bx, rfl, rfl⟩
  refine dh V.z105 rfl ?_
  intro b4
  refine cA (dD V.NO rfl rfl rfl (by exact fO) (by exact Nat.le_of_ble_eq_true rfl) rfl)<|(Q8) ?_
  refine oV (BV (fs := []) (cs := [_]) rfl rfl)<|(Q8) ?_
  refine jg [pz 0 [] [5], pz 1 [0] [], pz 0 [] [5], pz 7 [2] [], pz 0 [] [4], pz 31 [4] [], pz 0 [] [4], pz 127 [6] [], pz 255 [1, 3, 5, 7] [], pz 0 [] [], pz 1023 [9, 8] []] [⟨fun y => ai b4 105 [.pointer (some ⟨bx, 0, none⟩)], none, none, [1, 3, 4, 6]⟩, ⟨fun y => HW bx B (8 * 0) [] 0, none, some 1, []⟩, ⟨fun y => R, none, none, []⟩, ⟨fun y => ai b2 35 [.int .i64 0, .int .i64 0, .int .i64 0, .int .i64 0, .bool false], none, none, []⟩, ⟨fun y => HW bx B (8 * 4) [] 0, some 1, some 3, []⟩, ⟨fun y => HW bx B (8 * 8) [] 0, some 3, some 5, []⟩, ⟨fun y => HW bx B (8 * 9) [] 0, some 5, some 7, []⟩, ⟨fun y => HW bx B (8 * 10) [] 0, some 7, none, []⟩, ⟨fun y => ai (fo (y 9)) 35 [.int .i64 0, .int .i64 0, .int .i64 0, .int .i64 0, .bool false], some 9, some 10, []⟩, ⟨fun y => ai (fo (y 9)) 35 [.int .i64 (aG.cZ B), .int .i64 (aG.cZ (B.drop 4)), .int .i64 (B.getD 8 0), .int .i64 (B.getD 9 0), .bool false], some 10, none, []⟩] F V.mixed (by kernel_rfl) rfl (fun _ => .refl _) (aS _ (aS _ (aS _ (aS _ (cI _ rfl (by intro y y2 h; rfl) (cI _ rfl (by intro y y2 h; rfl) (cI _ rfl (by intro y y2 h; rfl) (cI _ rfl (by intro y y2 h; rfl) (cI _ rfl (by intro y y2 h; simp only [h 9 (.inl rfl)]) (cI _ rfl (by intro y y2 h; simp only [h 9 (.inr (by decide))]) fg))))))))))<|nM<|nE (fun y FF hA => kc (vs := []) (fs := []) (cs := [.pointer (some ⟨b4, 0, none⟩)]) (Post := [HW bx B (8 * 4) [] 0, ai b4 105 [.pointer (some ⟨bx, 0, none⟩)]]) (Cp bx b4 B [] 0 (by omega) hB 0 (by omega)) V.Wr rfl rfl (aO .nil) (fun v G h => by rcases h with ⟨rfl, rfl⟩; exact ⟨rfl, .refl _⟩))<|nM<|nE (fun y FF hA => kc (vs := []) (fs := []) (cs := [.pointer (some ⟨b4, 0, none⟩)]) (Post := [HW bx B (8 * 8) [] 0, ai b4 105 [.pointer (some ⟨bx, 0, none⟩)]]) (Cp bx b4 B [] 0 (by omega) hB 4 (by omega)) V.Wr rfl rfl (aO .nil) (fun v G h => by rcases h with ⟨rfl, rfl⟩; exact ⟨rfl, .refl _⟩))<|(yK) ?_
  refine nE (fun y FF hA => aV (Post := [HW bx B (8 * 9) [] 0]) (jC bx B (8 * 8) [] 0 8 (by omega) hB (by decide) (by omega)) V.sx rfl (ao .nil) (fun v G h => by rcases h with ⟨rfl, rfl⟩; exact ⟨by rw [aa.lY (hB.get 8)], .refl _⟩))<|(yK) ?_
  refine nE (fun y FF hA => aV (Post := [HW bx B (8 * 10) [] 0]) (jC bx B (8 * 9) [] 0 8 (by omega) hB (by decide) (by omega)) V.sx rfl (ao .nil) (fun v G h => by rcases h with ⟨rfl, rfl⟩; exact ⟨by rw [aa.lY (hB.get 9)], .refl _⟩))<|nV (fun y hA L => cR V.OH V.vC rfl (cs := [.int .i64 (aG.cZ B), .int .i64 (aG.cZ (B.drop 4)), .int .i64 (B.getD 8 0), .int .i64 (B.getD 9 0), .bool false]) (by kernel_rfl))<|ek (fun y v => .pointer (some ⟨fo v, 0, none⟩)) (fun y v => True) _ _ (fun y v => [ai (fo v) 35 [.int .i64 0, .int .i64 0, .int .i64 0, .int .i64 0, .bool false]]) _ (fun y => rfl) (fun y => rfl) (fun y => rfl) (fun y => rfl) (fun y FF hA => vD (uA V.vC)) (by intros; rfl) (by intros; rfl) (by intros; rfl) (by intro y y2 h; simp only [h 9 (.inl rfl)]) (by intro y y2 h; rfl)<|nE (fun y FF hA => de (bd V.nq rfl rfl (us := [_, _, _, _, _]) rfl rfl (by exact fO) (by exact Nat.le_of_ble_eq_true rfl) rfl) ⟨rfl, .refl _⟩)<|(Qb) ?_
  intro y hA
  clear hA
  refine bj<|bD [(2, .pointer (some ⟨b2, 0, none⟩)), (4, .pointer (some ⟨b4, 0, none⟩)), (6, .pointer (some ⟨(fo (y 9)), 0, none⟩))] (.cons (d := 2) rfl (.cons (d := 4) rfl (.cons (d := 6) rfl (.nil _))))<|a7 (M := ai b4 105 [.pointer (some ⟨bx, 0, none⟩)] :: R :: ai b2 35 [.int .i64 0, .int .i64 0, .int .i64 0, .int .i64 0, .bool false] :: HW bx B (8 * 10) [] 0 :: ai (fo (y 9)) 35 [.int .i64 (aG.cZ B), .int .i64 (aG.cZ (B.drop 4)), .int .i64 (B.getD 8 0), .int .i64 (B.getD 9 0), .bool false] :: F) (fun _ _ h => h) ?_
  generalize (fo (y 9)) = b6
  refine (Qa) ?_
  refine wN [pz 0 [] [4], pz 1 [0] [], pz 0 [] [4], pz 7 [2] [], pz 0 [] [4], pz 31 [4] [], pz 63 [1] [], pz 127 [3] [], pz 255 [5] []] [⟨fun y => ai b4 105 [.pointer (some ⟨bx, 0, none⟩)], none, none, [0, 2, 4]⟩, ⟨fun y => R, none, none, []⟩, ⟨fun y => ai b2 35 [.int .i64 0, .int .i64 0, .int .i64 0, .int .i64 0, .bool false], none, none, []⟩, ⟨fun y => HW bx B (8 * 10) [] 0, none, some 1, []⟩, ⟨fun y => ai b6 35 [.int .i64 (aG.cZ B), .int .i64 (aG.cZ (B.drop 4)), .int .i64 (B.getD 8 0), .int .i64 (B.getD 9 0), .bool false], none, none, []⟩, ⟨fun y => HW bx B (8 * 11) [] 0, some 1, some 3, []⟩, ⟨fun y => HW bx B (8 * 12) [] 0, some 3, some 5, []⟩, ⟨fun y => HW bx B (8 * 13) [] 0, some 5, none, []⟩] F V.mixed<|(yK) ?_
  refine nE (fun y FF hA => aV (Post := [HW bx B (8 * 11) [] 0]) (jC bx B (8 * 10) [] 0 8 (by omega) hB (by decide) (by omega)) V.sx rfl (ao .nil) (fun v G h => by rcases h with ⟨rfl, rfl⟩; exact ⟨by rw [aa.lY (hB.get 10)], .refl _⟩))<|(yK) ?_
  refine nE (fun y FF hA => aV (Post := [HW bx B (8 * 12) [] 0]) (jC bx B (8 * 11) [] 0 8 (by omega) hB (by decide) (by omega)) V.sx rfl (ao .nil) (fun v G h => by rcases h with ⟨rfl, rfl⟩; exact ⟨by rw [aa.lY (hB.get 11)], .refl _⟩))<|(yK) ?_
  refine nE (fun y FF hA => aV (Post := [HW bx B (8 * 13) [] 0]) (jC bx B (8 * 12) [] 0 8 (by omega) hB (by decide) (by omega)) V.sx rfl (ao .nil) (fun v G h => by rcases h with ⟨rfl, rfl⟩; exact ⟨by rw [aa.lY (hB.get 12)], .refl _⟩)) ?_
  iterate 3 refine nA ?_
  refine (Qb) ?_
  intro y hA
  clear hA
  refine bj<|bD [(2, .pointer (some ⟨b2, 0, none⟩)), (6, .pointer (some ⟨b6, 0, none⟩)), (7, .int .i64 (B.getD 10 0)), (8, .int .i64 (B.getD 11 0)), (9, .int .i64 (B.getD 12 0))] (.cons (d := 2) rfl (.cons (d := 6) rfl (.cons (d := 7) rfl (.cons (d := 8) rfl (.cons (d := 9) rfl (.nil _))))))<|a7 (M := ai b4 105 [.pointer (some ⟨bx, 0, none⟩)] :: R :: ai b2 35 [.int .i64 0, .int .i64 0, .int .i64 0, .int .i64 0, .bool false] :: ai b6 35 [.int .i64 (aG.cZ B), .int .i64 (aG.cZ (B.drop 4)), .int .i64 (B.getD 8 0), .int .i64 (B.getD 9 0), .bool false] :: HW bx B (8 * 13) [] 0 :: F) (fun _ _ h => h)<|(Qf) ?_
  refine cA (dD V.s4 rfl rfl rfl (by exact HH) (by exact Nat.le_of_ble_eq_true rfl) rfl)<|(Q6) ?_
  rcases (aa.Zi h0) with ⟨_, a1, hs⟩ | ⟨_, a1, a2, hs⟩ | ⟨_, a1, a2, a3, hs⟩ | ⟨_, a1, a2, a3, a4, hs⟩ | ⟨_, a1, a2, a3, a4, a5, hs⟩ | ⟨_, a1, a2, a3, a4, a5, a6, hs⟩ | ⟨_, a1, a2, a3, a4, a5, a6, hs⟩
  ·refine (Q5)<|(QA)<|(wB)<|(QA) ?_
   refine aj (CL (B.getD 9 0) (B.getD 8 0) false (decide_eq_false a1).symm) V.V1  rfl .nil rfl ?_
   rintro _ _ ⟨rfl, rfl⟩
   refine rO TT 26 rfl<|(yz)<|(yt)<|(Q3) ?_
   exact ag (dU V.nq rfl dJ rfl rfl) ⟨by rw [hs, aa.nJ hs (by decide)]; rfl, rfl⟩ (sub (.cons ax .nil) kv)
  ·refine (Q5)<|(QA)<|(wB)<|(QA)<|(zG) ?_
   rintro _ _ ⟨rfl, rfl⟩
   refine (yj)<|(Q0) ?_
   refine oV (c9 (ed rfl rfl) a2)<|rO TT 20 rfl<|(yz)<|(yt)<|(Q3) ?_
   exact ag (dU V.nq rfl dJ rfl rfl) ⟨by rw [hs, aa.nJ hs (by decide)]; rfl, rfl⟩ (sub (.cons ax .nil) kv)
  ·refine (Q5)<|(QA)<|(wB)<|(QA)<|(zG) ?_
   rintro _ _ ⟨rfl, rfl⟩
   refine (yj)<|(Q0)<|(Co)<|(Qd) ?_
   refine oV (c9 (ed rfl rfl) a3)<|rO TT 16 rfl<|(yz)<|(yt)<|(Q3) ?_
   exact ag (dU V.nq rfl dJ rfl rfl) ⟨by rw [hs, aa.nJ hs (by decide)]; rfl, rfl⟩ (sub (.cons ax .nil) kv)
  ·refine (Q5)<|(QA)<|(wB)<|(QA)<|(zG) ?_
   rintro _ _ ⟨rfl, rfl⟩
   refine (yj)<|(Q0)<|(Co)<|(Qd)<|(Jd)<|(Qd)<|(QA)<|(Q0) ?_
   refine oV (c9 (dz rfl rfl) a4)<|(Qp)<|(yz)<|(yt)<|(Q3) ?_
   exact ag (dU V.nq rfl dJ rfl rfl) ⟨by rw [hs, aa.nJ hs (by decide)]; rfl, rfl⟩ (sub (.cons ax .nil) kv)
  ·refine (Q5)<|(QA)<|(wB)<|(QA)<|(zG) ?_
   rintro _ _ ⟨rfl, rfl⟩
   refine (yj)<|(Q0)<|(Co)<|(Qd)<|(Jd)<|(Qd)<|(QA)<|(Q0)<|(I5)<|(Qd)<|(QA)<|(Q0) ?_
   refine oV (c9 (dz rfl rfl) a5)<|(Q1)<|(yz)<|(yt)<|(Q3) ?_
   exact ag (dU V.nq rfl dJ rfl rfl) ⟨by rw [hs, aa.nJ hs (by decide)]; rfl, rfl⟩ (sub (.cons ax .nil) kv)
  ·refine (Q5)<|(QA)<|(wB)<|(QA)<|(zG) ?_
   rintro _ _ ⟨rfl, rfl⟩
   refine (yj)<|(Q0)<|(Co)<|(Qd)<|(Jd)<|(Qd)<|(QA)<|(Q0)<|(I5)<|(Qd)<|(QA)<|(Q0) ?_
   refine oV (bS (dz rfl rfl) a5)<|(Qe)<|(QA) ?_
   refine oV (bg V.tl rfl)<|(UN) ?_
   rintro _ _ ⟨rfl, rfl⟩
   refine oV (c9 (cG rfl rfl) a6)<|(Q3)<|(yz)<|(yt)<|(Q3) ?_
   exact ag (dU V.nq rfl dJ rfl rfl) ⟨by rw [hs, aa.nJ hs (by decide)]; rfl, rfl⟩ (sub (.cons ax .nil) kv)
  ·refine (Q5)<|(QA)<|(wB)<|(QA)<|(zG) ?_
   rintro _ _ ⟨rfl, rfl⟩
   refine (yj)<|(Q0)<|(Co)<|(Qd)<|(Jd)<|(Qd)<|(QA)<|(Q0)<|(I5)<|(Qd)<|(QA)<|(Q0) ?_
   refine oV (bS (dz rfl rfl) a5)<|(Qe)<|(QA) ?_
   refine oV (bg V.tl rfl)<|(UN) ?_
   rintro _ _ ⟨rfl, rfl⟩
   refine oV (bS (cG rfl rfl) a6)<|(Qc) ?_
   refine oV (eC V.nq rfl gq (vs := [_, _, _, _, _]) rfl rfl)<|(yt)<|(Q8) ?_
   exact ag (dU V.nq rfl dJ rfl rfl) ⟨by rw [hs, aa.vQ hs]; rfl, rfl⟩ (sub (.cons ax .nil) kv)
end Go.Proofs.YtmaiakpjgomnpaaGreat
namespace Go.Proofs.YtmaiakpjgomnpaaGreat
open Go.Sl
theorem V.MG : fX Tryz.prog 90 = some 9 := by kernel_rfl
theorem V.gC : a8 Tryz.prog 90 0 = some 0 := by kernel_rfl
theorem V.Tt : a8 Tryz.prog 90 1 = some 5 := by kernel_rfl
theorem V.sD : a8 Tryz.prog 90 2 = some 6 := by kernel_rfl
theorem V.T4 : a8 Tryz.prog 90 3 = some 7 := by kernel_rfl
theorem V.H3 : a8 Tryz.prog 90 4 = some 8 := by kernel_rfl
theorem V.I9 : cx Tryz.prog 90 = some ([.int .i64 0, .int .i64 0, .int .i64 0, .int .i64 0, .bool false, .slice none 0 0, .slice none 0 0, .slice none 0 0, .slice none 0 0]) := by kernel_rfl
end Go.Proofs.YtmaiakpjgomnpaaGreat
namespace Go.Proofs.YtmaiakpjgomnpaaGreat
open Go.Sl 
attribute [local irreducible] af.an aa.aW aa.up aa.bO aa.fK aa.D5 aa.deep aa.parts HW aa.aZ aa.aT aa.aQ aa.aY aa.bR aa.ir aa.iO aa.mb aa.aR aa.bW
theorem zU {es : List Ce} {i : Nat} {kk : List Int} (hi : i ≤ es.length) (h : ∀ j : Nat, j < i → (aP.g es (j : Int)).k ≠ kk) : ∀ j, j < i → ∀ c, (es.map Ce.ch)[j]? = some c → c.k ≠ kk := fun j hj c hc => by
 rw [oL (by omega)] at hc
 cases hc
 exact h j hj
theorem tj {es : List Ce} {x : Ce} (hx : x ∈ es) : ∀ w0 h, DK es w0 h → aE U5 x.p x.d.length x.d w0 h := fun w0 h hh => (hh x hx).rd
theorem GI (R : ad) : ∀ w0 h, R w0 h → aE U5 none 0 [] w0 h := fun _ _ _ => ⟨rfl, rfl, .inl rfl⟩
structure o6 where
 pp : Option Addr
 cp : Nat
 P : List Int
 pt : Option Addr
 ct : Nat
 T : List Int
 pd : Option Addr
 cd : Nat
 D : List Int
 hp : Bool
 ht : Bool
def lE (es : List Ce) (i : Nat) (s : o6) : Prop := s.P = aa.kU ((es.map Ce.ch).take i) aa.aT ∧ s.T = aa.kU ((es.map Ce.ch).take i) aa.aQ ∧ s.D = aa.bW ((es.map Ce.ch).take i) ∧ s.hp = aa.dV ((es.map Ce.ch).take i) aa.aT ∧ s.ht = aa.dV ((es.map Ce.ch).take i) aa.aQ ∧ s.P.length ≤ s.cp ∧ s.T.length ≤ s.ct ∧ (∀ w0 h, DK es w0 h → aE U5 s.pp s.P.length s.P w0 h) ∧ ∀ w0 h, DK es w0 h → aE U5 s.pt s.T.length s.T w0 h
theorem S4 (es : List Ce) : lE es 0 ⟨none, 0, [], none, 0, [], none, 0, [], false, false⟩ := ⟨rfl, rfl, by unfold aa.bW; rfl, rfl, rfl, Nat.le_refl _, Nat.le_refl _, GI _, GI _⟩
section
variable {es : List Ce} {i : Nat} {s : o6} {x : Ce} (hs : lE es i s) (hx : (es.map Ce.ch)[i]? = some x.ch)
include hs hx
theorem Su (hk : x.k = aa.aT) (hm : x ∈ es) (ho : x.d.length ≤ x.c) : lE es (i + 1) { s with pp := x.p, cp := x.c, P := x.d, hp := true } := by
 obtain ⟨h1, h2, h3, h4, h5, h6, h7, h8, h9⟩ := hs
 have hk : x.ch.k = aa.aT := hk
 refine ⟨?_, ?_, ?_, ?_, ?_, ho, h7, tj hm, h9⟩
 ·rw [aa.kd hx, if_pos hk]; rfl
 ·rw [aa.kd hx, if_neg (by rw [hk]; exact aa.Hy)]; exact h2
 ·rw [aa.sW hx, if_neg (by rw [hk]; exact aa.O7)]; exact h3
 ·rw [aa.kW hx, hk]; simp
 ·rw [aa.kW hx, hk, ← h5, beq_false_of_ne aa.Hy, Bool.or_false]
theorem Un (hk : x.k = aa.aQ) (hm : x ∈ es) (ho : x.d.length ≤ x.c) : lE es (i + 1) { s with pt := x.p, ct := x.c, T := x.d, ht := true } := by
 obtain ⟨h1, h2, h3, h4, h5, h6, h7, h8, h9⟩ := hs
 have hk : x.ch.k = aa.aQ := hk
 refine ⟨?_, ?_, ?_, ?_, ?_, h6, ho, h8, tj hm⟩
 ·rw [aa.kd hx, if_neg (by rw [hk]; exact aa.Hy.symm)]; exact h1
 ·rw [aa.kd hx, if_pos hk]; rfl
 ·rw [aa.sW hx, if_neg (by rw [hk]; exact aa.L4)]; exact h3
 ·rw [aa.kW hx, hk, ← h4, beq_false_of_ne aa.Hy.symm, Bool.or_false]
 ·rw [aa.kW hx, hk]; simp
theorem HQ (hk : x.k = aa.aZ) (p : Option Addr) (c : Nat) : lE es (i + 1) { s with pd := p, cd := c, D := s.D ++ x.d } := by
 obtain ⟨h1, h2, h3, h4, h5, h6, h7, h8, h9⟩ := hs
 have hk : x.ch.k = aa.aZ := hk
 refine ⟨?_, ?_, ?_, ?_, ?_, h6, h7, h8, h9⟩
 ·rw [aa.kd hx, if_neg (by rw [hk]; exact aa.O7.symm)]; exact h1
 ·rw [aa.kd hx, if_neg (by rw [hk]; exact aa.L4.symm)]; exact h2
 ·rw [aa.sW hx, if_pos hk, ← h3]; rfl
 ·rw [aa.kW hx, hk, ← h4, beq_false_of_ne aa.O7.symm, Bool.or_false]
 ·rw [aa.kW hx, hk, ← h5, beq_false_of_ne aa.L4.symm, Bool.or_false]
theorem Uf (k1 : x.k ≠ aa.aT) (k2 : x.k ≠ aa.aQ) (k3 : x.k ≠ aa.aZ) : lE es (i + 1) s := by
 obtain ⟨h1, h2, h3, h4, h5, h6, h7, h8, h9⟩ := hs
 have k1 : x.ch.k ≠ aa.aT := k1
 have k2 : x.ch.k ≠ aa.aQ := k2
 have k3 : x.ch.k ≠ aa.aZ := k3
 refine ⟨?_, ?_, ?_, ?_, ?_, h6, h7, h8, h9⟩
 ·rw [aa.kd hx, if_neg k1]; exact h1
 ·rw [aa.kd hx, if_neg k2]; exact h2
 ·rw [aa.sW hx, if_neg k3]; exact h3
 ·rw [aa.kW hx, ← h4]; simp [k1]
 ·rw [aa.kW hx, ← h5]; simp [k2]
end
set_option maxHeartbeats 1000000 in
theorem XX (p : Option Addr) (c : Nat) (es : List Ce) (R : ad) (hR : ∀ w0 h, R w0 h → aE aP p es.length es w0 h) (hel : es.length ≤ 262144) (hok : H4 es) (kk : List Int) (hk : af.an kk) : aA Tryz.prog 45 [.slice p es.length c, .string (strOfNums kk)] [R] (aF fun v G => ∃ q cq, v = .tuple #[.slice q (aa.bC (es.map Ce.ch) kk).length cq, .bool (aa.dV (es.map Ce.ch) kk)] ∧ (∀ w0 h, DK es w0 h → aE U5 q (aa.bC (es.map Ce.ch) kk).length (aa.bC (es.map Ce.ch) kk) w0 h) ∧ G = [R]) := by
 refine au [(0, _), (1, _)] Tryz.func45 rfl Tryz.ntmps45 rfl rfl ?_
 intro w0 F
 refine rT TT 13 rfl ?_
 refine cE (fun (i : Nat) => [(0, .slice p es.length c), (1, .string (strOfNums kk)), (6, .int .i64 (i : Int))]) (fun (i : Nat) => R :: F) (fun (i : Nat) => i ≤ es.length ∧ ∀ j : Nat, j < i → (aP.g es (j : Int)).k ≠ kk) (fun (i : Nat) => es.length - i) (i1 (0) ?_ (gL ln) (sub (ao .nil) ak)) ?_
 ·exact ⟨Nat.zero_le _, fun j hj => by omega⟩
 intro i
 rintro ⟨hi, hall⟩
 refine rL TT 9 rfl ?_
 refine aD rfl (fun h10 => ?_) (fun h10 => ?_)
 ·refine (Q5) ?_
  rcases (Classical.em ((aP.g es (i : Int)).k = kk)) with hke | hke
  ·refine (Qa) ?_
   have hcx := oL (es := es) (i := i) (by omega)
   have hxo := mh (i := i) (fun x => af.an x.k ∧ x.k.length < 500000000) hok (by omega)
   have hxk : af.an (aP.g es (i : Int)).k := hxo.1
   have hxm := mh (i := i) (fun x => x ∈ es) (fun x hx => hx) (by omega)
   refine (Q4) ?_
   refine oV (xI V.l8 (by exact bK hR aB))<|oV (bg V.s7 rfl)<|(Vk)<|(Q7) ?_
   refine oV (jf (aa.bp hxk) (aa.bp hk) rfl rfl (decide_eq_true hke).symm)<|(Qc) ?_
   refine oV (xI V.l8 (by exact bK hR aB))<|oV (bg V.ql rfl)<|oV (gi (c := (aP)) 1 V.jw rfl (by exact bK hR aB) (by omega) (by omega) rfl rfl)<|(Qe) ?_
   obtain ⟨e1, e2⟩ := aa.wx hcx hke (zU (by omega) hall)
   rw [e1, e2]
   exact ag (ev rfl rfl) ⟨(aP.g es (i : Int)).p, (aP.g es (i : Int)).c, rfl, tj hxm, rfl⟩ (sub (ao .nil) ak)
  ·refine (Qa) ?_
   have hcx := oL (es := es) (i := i) (by omega)
   have hxo := mh (i := i) (fun x => af.an x.k ∧ x.k.length < 500000000) hok (by omega)
   have hxk : af.an (aP.g es (i : Int)).k := hxo.1
   have hxm := mh (i := i) (fun x => x ∈ es) (fun x hx => hx) (by omega)
   refine (Q4) ?_
   refine oV (xI V.l8 (by exact bK hR aB))<|oV (bg V.s7 rfl)<|(Vk)<|(Q7) ?_
   refine oV (jf (aa.bp hxk) (aa.bp hk) rfl rfl (decide_eq_false hke).symm)<|(Cw) ?_
   refine j1 (i + 1) ?_ (gL ln) (sub (ao .nil) ak)
   exact ⟨⟨by omega, fun j hj => (Nat.lt_succ_iff_lt_or_eq.1 hj).elim (hall j) (fun e => e ▸ hke)⟩, by omega⟩
 ·refine rC TT 12 rfl ?_
  obtain ⟨e1, e2⟩ := aa.wX (k := kk) (L := (es.map Ce.ch)) (by rw [List.length_map]; exact fun j hj => zU hi hall j (by omega))
  rw [e1, e2]
  exact ag (ev rfl rfl) ⟨none, 0, rfl, GI _, rfl⟩ (sub (ao .nil) ak)
set_option maxHeartbeats 4000000 in
theorem FV (p : Option Addr) (c : Nat) (es : List Ce) (R : ad) (hR : ∀ w0 h, R w0 h → aE CK p es.length es w0 h) (hel : es.length ≤ 262144) (hok : H4 es) (hco : ∀ y ∈ es, Ay y) (hsum : aa.ja (es.map Ce.ch) < 500000000) : aA Tryz.prog 39 [.slice p es.length c] [R, DK es] (aF fun v G => ∃ s : o6, lE es es.length s ∧ v = .tuple #[.agg #[.int .i64 0, .int .i64 0, .int .i64 0, .int .i64 0, .bool false, .slice s.pp s.P.length s.cp, .slice s.pt s.T.length s.ct, .slice s.pd s.D.length s.cd, .slice none 0 0], .bool s.hp, .bool s.ht] ∧ G = [Row U5 s.pd s.D.length s.cd s.D, R, DK es]) := by
 refine au [(0, _)] Tryz.func39 rfl Tryz.ntmps39 rfl rfl ?_
 intro w0 F
 refine (Qt) ?_
 refine dh V.I9 rfl ?_
 intro b2
 refine (Qq)<|(xF) ?_
 refine gk (fun (i : Nat) (s : o6) => [(2, .pointer (some ⟨b2, 0, none⟩)), (3, .bool s.hp), (4, .bool s.ht), (7, .slice p es.length c), (8, .int .i64 (es.length : Int)), (9, .int .i64 (i : Int))]) (fun (i : Nat) (s : o6) => ai b2 90 [.int .i64 0, .int .i64 0, .int .i64 0, .int .i64 0, .bool false, .slice s.pp s.P.length s.cp, .slice s.pt s.T.length s.ct, .slice s.pd s.D.length s.cd, .slice none 0 0] :: Row U5 s.pd s.D.length s.cd s.D :: R :: DK es :: F) (fun (i : Nat) (s : o6) => i ≤ es.length ∧ lE es i s) (fun (i : Nat) (s : o6) => es.length - i) (i2 (0) (⟨none, 0, [], none, 0, [], none, 0, [], false, false⟩) ?_ (jx (bP ln)) (sub (.cons ax (eU .nil)) ak)) ?_
 ·exact ⟨Nat.zero_le _, S4 es⟩
 intro i s
 rintro ⟨hi, hs⟩
 refine (Qm) ?_
 refine aD rfl (fun h10 => ?_) (fun h10 => ?_)
 ·refine (Qf) ?_
  have hcx : (es.map Ce.ch)[i]? = some (CK.g es (i : Int)).ch := oL (es := es) (i := i) (by omega)
  have hxo := mh (i := i) (fun x => af.an x.k ∧ x.k.length < 500000000) hok (by omega)
  have hxk : af.an (CK.g es (i : Int)).k := hxo.1
  have hxm : (CK.g es (i : Int)) ∈ es := mh (i := i) (fun x => x ∈ es) (fun x hx => hx) (by omega)
  have hxc : (CK.g es (i : Int)).d.length ≤ (CK.g es (i : Int)).c := hco _ hxm
  refine (Qo) ?_
  refine oV (xI V.ru (by exact bK hR dJ))<|oV (mZ (c := (CK)) V.oB rfl (by exact bK hR dJ) (by omega) (by omega) rfl)<|(xp) ?_
  intro b6
  refine (qU)<|(Q6) ?_
  rcases ((by by_cases h0 : (CK.g es (i : Int)).k = aa.aT; exact .inl h0; by_cases h1 : (CK.g es (i : Int)).k = aa.aQ; exact .inr (.inl ⟨h0, h1⟩); by_cases h2 : (CK.g es (i : Int)).k = aa.aZ; exact .inr (.inr (.inl ⟨h0, h1, h2⟩)); exact .inr (.inr (.inr ⟨h0, h1, h2⟩)) : (CK.g es (i : Int)).k = aa.aT ∨ ((CK.g es (i : Int)).k ≠ aa.aT ∧ (CK.g es (i : Int)).k = aa.aQ) ∨ ((CK.g es (i : Int)).k ≠ aa.aT ∧ (CK.g es (i : Int)).k ≠ aa.aQ ∧ (CK.g es (i : Int)).k = aa.aZ) ∨ ((CK.g es (i : Int)).k ≠ aa.aT ∧ (CK.g es (i : Int)).k ≠ aa.aQ ∧ (CK.g es (i : Int)).k ≠ aa.aZ))) with a0 | ⟨a0, a1⟩ | ⟨a0, a1, a2⟩ | ⟨a0, a1, a2⟩
  ·refine (Q4)<|(rh) ?_
   refine oV (jf (aa.bp hxk) (aa.bp aa.qt) rfl (show aq _ _ = some (.string (strOfNums aa.aT)) by unfold aa.aT; rfl) (decide_eq_true a0).symm)<|(Q1)<|(vk) ?_
   refine oV (bg V.Tt rfl)<|(Uu)<|(sY) ?_
   (exact j2 (i + 1) { s with pp := (CK.g es (i : Int)).p, cp := (CK.g es (i : Int)).c, P := (CK.g es (i : Int)).d, hp := true } ⟨⟨by omega, Su hs hcx a0 hxm hxc⟩, by omega⟩ (jx (bP ln)) (sub (.cons ax (.cons ax (.cons ax (.cons ax .nil)))) bu))
  ·refine (Q4)<|(rh)<|(Sb)<|(Q1) ?_
   refine oV (jf (aa.bp hxk) (aa.bp aa.qp) rfl (show aq _ _ = some (.string (strOfNums aa.aQ)) by unfold aa.aQ; rfl) (decide_eq_true a1).symm)<|(Q1)<|(vk) ?_
   refine oV (bg V.sD rfl)<|(Uu)<|(sY) ?_
   (exact j2 (i + 1) { s with pt := (CK.g es (i : Int)).p, ct := (CK.g es (i : Int)).c, T := (CK.g es (i : Int)).d, ht := true } ⟨⟨by omega, Un hs hcx a1 hxm hxc⟩, by omega⟩ (jx (bP ln)) (sub (.cons ax (.cons ax (.cons ax (.cons ax .nil)))) bu))
  ·refine (Q4)<|(rh)<|(Sb)<|(Q1)<|(Wj)<|(Q1) ?_
   refine oV (jf (aa.bp hxk) (aa.bp aa.qF) rfl (show aq _ _ = some (.string (strOfNums aa.aZ)) by unfold aa.aZ; rfl) (decide_eq_true a2).symm)<|(Q8) ?_
   have hd1 := aa.ng ((es.map Ce.ch).take (i + 1))
   have hd2 := aa.xD (es.map Ce.ch) (i + 1)
   rw [← (HQ hs hcx a2 none 0).2.2.1] at hd1
   have hd3 : (s.D ++ (CK.g es (i : Int)).d).length = s.D.length + (CK.g es (i : Int)).d.length := List.length_append
   have hd4 : s.D.length + (CK.g es (i : Int)).d.length < 500000000 := by rw [← hd3]; exact Nat.lt_of_le_of_lt hd1 (by omega)
   refine (Q9)<|(vb)<|(oU)<|(vk) ?_
   refine ew (c := (U5)) V.bE V.z5 rfl rfl rfl rfl bo (Rs (f := RX) jK hxm) (by omega) rfl ?_
   intro p31 c31
   refine oV (bg V.T4 rfl)<|(Uq)<|(QG) ?_
   (rw [← List.length_append]; exact j2 (i + 1) { s with pd := p31, cd := c31, D := s.D ++ (CK.g es (i : Int)).d } ⟨⟨by omega, HQ hs hcx a2 _ _⟩, by omega⟩ (jx (bP ln)) (sub (.cons bo (ao (.cons ax (.cons ax .nil)))) bu))
  ·refine (Q4)<|(rh)<|(Sb)<|(Q1)<|(Wj)<|(Q1) ?_
   refine oV (jf (aa.bp hxk) (aa.bp aa.qF) rfl (show aq _ _ = some (.string (strOfNums aa.aZ)) by unfold aa.aZ; rfl) (decide_eq_false a2).symm)<|(xf) ?_
   (exact j2 (i + 1) s ⟨⟨by omega, Uf hs hcx a0 a1 a2⟩, by omega⟩ (jx (bP ln)) (sub (.cons ax (.cons ax (.cons ax (.cons ax .nil)))) bu))
 ·refine (Qi) ?_
  obtain rfl : i = es.length := by omega
  refine (Qo) ?_
  refine oV (eC V.MG rfl aB (vs := [_, _, _, _, _, _, _, _, _]) rfl rfl)<|(Q6)<|(Hx)<|(Q3) ?_
  exact ag (oe V.MG rfl aB rfl rfl rfl) ⟨s, hs, rfl, rfl⟩ (sub (.cons ax (.cons ax (.cons ax .nil))) bu)
set_option maxHeartbeats 2000000 in
theorem Cn (h : aa.Hd) (hd : aa.im h.dep) (bf : Nat) (pp : Option Addr) (pl : List Int) (cp : Nat) (pt : Option Addr) (tr : List Int) (ct : Nat) (pd : Option Addr) (nd cd : Nat) (pk : Option Addr) (nk ck : Nat) (hl : pl.length < 500000000) (t : Bool) (ht : t = decide (aa.ir h pl false)) : aA Tryz.prog 40 [.pointer (some ⟨bf, 0, none⟩), .bool false] [ai bf 90 [.int .i64 h.w, .int .i64 h.h, .int .i64 h.dep, .int .i64 h.ar, .bool h.ba, .slice pp pl.length cp, .slice pt tr.length ct, .slice pd nd cd, .slice pk nk ck]] (aF fun v G => v = .bool t ∧ G = [ai bf 90 [.int .i64 h.w, .int .i64 h.h, .int .i64 h.dep, .int .i64 h.ar, .bool h.ba, .slice pp pl.length cp, .slice pt tr.length ct, .slice pd nd cd, .slice pk nk ck]]) := by
 refine au [(0, _), (1, _)] Tryz.func40 rfl Tryz.ntmps40 rfl rfl ?_
 intro w0 F
 obtain ⟨P, hP⟩ : ∃ P : Int, P = 2 ^ h.dep.toNat := ⟨_, rfl⟩
 have hpb : 2 ≤ P ∧ P ≤ 65536 := hP ▸ aa.lM hd
 have hdi := aa.iT hd
 refine rT TT 10 rfl<|(vk) ?_
 refine rO TT 20 rfl<|(Qk)<|(Qc) ?_
 obtain rfl : t = decide (h.ar ≠ 3) := ht.trans (decide_eq_decide.2 (aa.NA h pl))
 exact ag (av rfl) ⟨rfl, rfl⟩ (sub (ao .nil) ak)
set_option maxHeartbeats 2000000 in
theorem D0 (h : aa.Hd) (hd : aa.im h.dep) (bf : Nat) (pp : Option Addr) (pl : List Int) (cp : Nat) (pt : Option Addr) (tr : List Int) (ct : Nat) (pd : Option Addr) (nd cd : Nat) (pk : Option Addr) (nk ck : Nat) (hl : pl.length < 500000000) (t : Bool) (ht : t = decide (aa.ir h pl true)) : aA Tryz.prog 40 [.pointer (some ⟨bf, 0, none⟩), .bool true] [ai bf 90 [.int .i64 h.w, .int .i64 h.h, .int .i64 h.dep, .int .i64 h.ar, .bool h.ba, .slice pp pl.length cp, .slice pt tr.length ct, .slice pd nd cd, .slice pk nk ck]] (aF fun v G => v = .bool t ∧ G = [ai bf 90 [.int .i64 h.w, .int .i64 h.h, .int .i64 h.dep, .int .i64 h.ar, .bool h.ba, .slice pp pl.length cp, .slice pt tr.length ct, .slice pd nd cd, .slice pk nk ck]]) := by
 refine au [(0, _), (1, _)] Tryz.func40 rfl Tryz.ntmps40 rfl rfl ?_
 intro w0 F
 obtain ⟨P, hP⟩ : ∃ P : Int, P = 2 ^ h.dep.toNat := ⟨_, rfl⟩
 have hpb : 2 ≤ P ∧ P ≤ 65536 := hP ▸ aa.lM hd
 have hdi := aa.iT hd
 refine rT TT 10 rfl<|(vk)<|(Q1) ?_
 rcases (aa.MU (plte := pl) hP) with ⟨a1, a⟩ | ⟨a1, a2, a⟩ | ⟨a1, a2, a3, a4, a⟩ | ⟨a1, a2, a3, a4, a⟩ | ⟨a1, a2, a3, a⟩
 ·refine rC TT 14 rfl<|(Qk)<|(Ni) ?_
  refine rO TT 20 rfl ?_
  obtain rfl : t = false := ht.trans (decide_eq_false a)
  exact ag (av rfl) ⟨rfl, rfl⟩ (sub (ao .nil) ak)
 ·refine rC TT 14 rfl<|(Qk)<|(pH)<|(QZ)<|(QQ)<|(HN)<|(Qq) ?_
  obtain rfl : t = false := ht.trans (decide_eq_false a)
  exact ag (av rfl) ⟨rfl, rfl⟩ (sub (ao .nil) ak)
 ·refine rC TT 14 rfl<|(Qk)<|(pH)<|(QZ)<|(QQ)<|(xz)<|(Qp)<|(Qk) ?_
  refine oV (c9 (dz rfl rfl) a3)<|(Qj)<|(qc)<|(QF)<|(QQ)<|(D6)<|(Q0) ?_
  refine oV (c9 (ed rfl rfl) a4)<|(Qq) ?_
  obtain rfl : t = false := ht.trans (decide_eq_false a)
  exact ag (av rfl) ⟨rfl, rfl⟩ (sub (ao .nil) ak)
 ·refine rC TT 14 rfl<|(Qk)<|(pH)<|(QZ)<|(QQ)<|(xz)<|(Qp)<|(Qk) ?_
  refine oV (c9 (dz rfl rfl) a3)<|(Qj)<|(qc)<|(QF)<|(QQ)<|(D6)<|(Q0) ?_
  refine oV (bS (ed rfl rfl) a4)<|(Ql) ?_
  rcases (aa.R5 pl.length) with c1 | ⟨c1, c2⟩ | ⟨c1, c2⟩
  ·refine (Q4)<|(zj)<|(QB)<|(Qq) ?_
   (obtain rfl : t = false := ht.trans (decide_eq_false (fun q => by have := a.1 q; omega)); exact ag (G := [ai bf 90 [.int .i64 h.w, .int .i64 h.h, .int .i64 h.dep, .int .i64 h.ar, .bool h.ba, .slice pp pl.length cp, .slice pt tr.length ct, .slice pd nd cd, .slice pk nk ck]]) (av rfl) ⟨rfl, rfl⟩ (sub (ao .nil) ak))
  ·refine (Q4) ?_
   refine (zj) ?_
   refine (Qv) ?_
   refine (Q6) ?_
   refine (Q0) ?_
   refine (Qr) ?_
   refine (Qe) ?_
   (obtain rfl : t = false := ht.trans (decide_eq_false (fun q => by have := a.1 q; omega)); exact ag (G := [ai bf 90 [.int .i64 h.w, .int .i64 h.h, .int .i64 h.dep, .int .i64 h.ar, .bool h.ba, .slice pp pl.length cp, .slice pt tr.length ct, .slice pd nd cd, .slice pk nk ck]]) (av rfl) ⟨rfl, rfl⟩ (sub (ao .nil) ak))
  ·refine (Q4) ?_
   refine (zj) ?_
   refine (Qv) ?_
   refine (Q6) ?_
   refine (Q0) ?_
   refine (Qu) ?_
   refine (Qg) ?_
   refine (Q0) ?_
   refine (qc) ?_
   refine (Q1) ?_
   (obtain rfl : t = decide ((pl.length : Int) / 3 ≤ 256) := ht.trans (decide_eq_decide.2 (a.trans (by omega))); exact ag (G := [ai bf 90 [.int .i64 h.w, .int .i64 h.h, .int .i64 h.dep, .int .i64 h.ar, .bool h.ba, .slice pp pl.length cp, .slice pt tr.length ct, .slice pd nd cd, .slice pk nk ck]]) (av rfl) ⟨rfl, rfl⟩ (sub (ao .nil) ak))
 ·refine rC TT 14 rfl<|(Qk)<|(pH)<|(QZ)<|(QQ)<|(xz)<|(Qp)<|(Qk) ?_
  refine oV (bS (dz rfl rfl) a3)<|rO TT 18 rfl ?_
  rcases (aa.R5 pl.length) with c1 | ⟨c1, c2⟩ | ⟨c1, c2⟩
  ·refine (Q4)<|(zj)<|(QB)<|(Qq) ?_
   (obtain rfl : t = false := ht.trans (decide_eq_false (fun q => by have := a.1 q; omega)); exact ag (G := [ai bf 90 [.int .i64 h.w, .int .i64 h.h, .int .i64 h.dep, .int .i64 h.ar, .bool h.ba, .slice pp pl.length cp, .slice pt tr.length ct, .slice pd nd cd, .slice pk nk ck]]) (av rfl) ⟨rfl, rfl⟩ (sub (ao .nil) ak))
  ·refine (Q4) ?_
   refine (zj) ?_
   refine (Qv) ?_
   refine (Q6) ?_
   refine (Q0) ?_
   refine (Qr) ?_
   refine (Qe) ?_
   (obtain rfl : t = false := ht.trans (decide_eq_false (fun q => by have := a.1 q; omega)); exact ag (G := [ai bf 90 [.int .i64 h.w, .int .i64 h.h, .int .i64 h.dep, .int .i64 h.ar, .bool h.ba, .slice pp pl.length cp, .slice pt tr.length ct, .slice pd nd cd, .slice pk nk ck]]) (av rfl) ⟨rfl, rfl⟩ (sub (ao .nil) ak))
  ·refine (Q4) ?_
   refine (zj) ?_
   refine (Qv) ?_
   refine (Q6) ?_
   refine (Q0) ?_
   refine (Qu) ?_
   refine (Qg) ?_
   refine (Q0) ?_
   refine (qc) ?_
   refine (Q1) ?_
   (obtain rfl : t = decide ((pl.length : Int) / 3 ≤ 256) := ht.trans (decide_eq_decide.2 (a.trans (by omega))); exact ag (G := [ai bf 90 [.int .i64 h.w, .int .i64 h.h, .int .i64 h.dep, .int .i64 h.ar, .bool h.ba, .slice pp pl.length cp, .slice pt tr.length ct, .slice pd nd cd, .slice pk nk ck]]) (av rfl) ⟨rfl, rfl⟩ (sub (ao .nil) ak))
set_option maxHeartbeats 1000000 in
theorem BF (h : aa.Hd) (hd : aa.im h.dep) (bf : Nat) (pp : Option Addr) (pl : List Int) (cp : Nat) (pt : Option Addr) (tr : List Int) (ct : Nat) (pd : Option Addr) (nd cd : Nat) (hpl : pl.length < 500000000) (htr : tr = []) (htl : tr.length < 500000000) (hB : af.an tr) (t : Bool) (ht : t = true) : aA Tryz.prog 41 [.pointer (some ⟨bf, 0, none⟩), .bool false] [ai bf 90 [.int .i64 h.w, .int .i64 h.h, .int .i64 h.dep, .int .i64 h.ar, .bool h.ba, .slice pp pl.length cp, .slice pt tr.length ct, .slice pd nd cd, .slice none 0 0]] (aF fun v G => ∃ pk nk ck K, (t = true → K = aa.aR h tr) ∧ K.length = nk ∧ v = .bool t ∧ G = [ai bf 90 [.int .i64 h.w, .int .i64 h.h, .int .i64 h.dep, .int .i64 h.ar, .bool h.ba, .slice pp pl.length cp, .slice pt tr.length ct, .slice pd nd cd, .slice pk nk ck], Row (aC 3 .i64) pk nk ck K]) := by
 refine au [(0, _), (1, _)] Tryz.func41 rfl Tryz.ntmps41 rfl rfl ?_
 intro w0 F
 refine rT TT 20 rfl ?_
 subst ht
 exact ag (av rfl) ⟨none, 0, 0, [], (fun _ => by rw [htr, aa.KZ]), rfl, rfl, rfl⟩ ((da (A := Row (aC 3 .i64) none 0 0 []) (fun w0 => Row.nil _ _ _)).trans (sub (.cons ax (ao .nil)) ak))
set_option maxHeartbeats 4000000 in
theorem Bc (h : aa.Hd) (hd : aa.im h.dep) (bf : Nat) (pp : Option Addr) (pl : List Int) (cp : Nat) (pt : Option Addr) (tr : List Int) (ct : Nat) (pd : Option Addr) (nd cd : Nat) (hpl : pl.length < 500000000) (htl : tr.length < 500000000) (hB : af.an tr) (R : ad) (hR : ∀ w0 h, R w0 h → aE U5 pt tr.length tr w0 h) (t : Bool) (ht : t = decide (aa.iO h pl tr true)) : aA Tryz.prog 41 [.pointer (some ⟨bf, 0, none⟩), .bool true] [ai bf 90 [.int .i64 h.w, .int .i64 h.h, .int .i64 h.dep, .int .i64 h.ar, .bool h.ba, .slice pp pl.length cp, .slice pt tr.length ct, .slice pd nd cd, .slice none 0 0], R] (aF fun v G => ∃ pk nk ck K, (t = true → K = aa.aR h tr) ∧ K.length = nk ∧ v = .bool t ∧ G = [ai bf 90 [.int .i64 h.w, .int .i64 h.h, .int .i64 h.dep, .int .i64 h.ar, .bool h.ba, .slice pp pl.length cp, .slice pt tr.length ct, .slice pd nd cd, .slice pk nk ck], Row (aC 3 .i64) pk nk ck K, R]) := by
 refine au [(0, _), (1, _)] Tryz.func41 rfl Tryz.ntmps41 rfl rfl ?_
 intro w0 F
 obtain ⟨P, hP⟩ : ∃ P : Int, P = 2 ^ h.dep.toNat := ⟨_, rfl⟩
 have hpb : 2 ≤ P ∧ P ≤ 65536 := hP ▸ aa.lM hd
 have hdi := aa.iT hd
 refine rT TT 15 rfl ?_
 refine iz (fun (u : Unit) => [(0, .pointer (some ⟨bf, 0, none⟩))]) (fun (u : Unit) => ai bf 90 [.int .i64 h.w, .int .i64 h.h, .int .i64 h.dep, .int .i64 h.ar, .bool h.ba, .slice pp pl.length cp, .slice pt tr.length ct, .slice pd nd cd, .slice none 0 0] :: R :: F) (fun (u : Unit) => (h.ar = 0 ∨ h.ar = 2) ∧ tr.length = 2 * (aa.parts h.ar).toNat ∧ 1 ≤ aa.parts h.ar ∧ aa.parts h.ar ≤ 3 ∧ aa.iO h pl tr true) ?_ ?_
 ·rcases (aa.Mq h pl tr) with ⟨a1, a⟩ | ⟨a1, a2, a3, a⟩ | ⟨a1, a2, a3, a⟩ | ⟨a1, a2, a4, a3, a⟩ | ⟨a1, a2, a4, a3, a⟩ | ⟨a1, a2, a4, a⟩
  ·refine (Qm)<|(Qk)<|(Q3)<|(Ni)<|(Q3)<|(so) ?_
   refine rR TT 3 rfl<|(HF) ?_
   refine rR TT 4 rfl<|(HF) ?_
   refine oR (ko (ty' := 0) Tryz.underlying22 rfl)<|oR (iJ rfl rfl (by omega) (rH (by omega) (by omega) (by omega)))<|rR TT 2 rfl<|Rg.c4<|rN TT 4 rfl ?_
   obtain rfl : t = decide ((tr.length : Int) ≤ (pl.length : Int) / 3) := ht.trans (decide_eq_decide.2 (a.trans (by omega)))
   exact ag (av rfl) ⟨none, 0, 0, [], (fun _ => by rw [aa.TG (by omega)]), rfl, rfl, rfl⟩ ((da (A := Row (aC 3 .i64) none 0 0 []) (fun w0 => Row.nil _ _ _)).trans (sub (.cons ax (aO .nil)) ak))
  ·refine (Qm)<|(Qk)<|(Q3)<|(pH)<|(Qc)<|(HN)<|(Ql) ?_
   have hpp : aa.parts h.ar = 1 := by rw [a2]; unfold aa.parts; rfl
   refine wN [pz 0 [] [0], pz 1 [0] [], pz 3 [1] [], pz 7 [2] [], pz 15 [3] [], pz 0 [] [0], pz 32 [5] [], pz 96 [6] [], pz 224 [7] [], pz 480 [8] [], pz 992 [9] [], pz 2016 [10] [], pz 4095 [4, 11] []] [⟨fun y => ai bf 90 [.int .i64 h.w, .int .i64 h.h, .int .i64 h.dep, .int .i64 h.ar, .bool h.ba, .slice pp pl.length cp, .slice pt tr.length ct, .slice pd nd cd, .slice none 0 0], none, none, [3, 9]⟩, ⟨fun y => R, none, none, []⟩] F V.mixed ?_
   refine nM ?_
   refine nN ?_
   refine nG V.sD ?_
   refine nR (fun y FF hA => az V.jw rfl aB rfl) ?_
   refine nV (fun y hA L => ko (ty' := 0) Tryz.underlying22 rfl) ?_
   refine nM ?_
   refine nN ?_
   refine nG V.gC ?_
   refine nG V.qg ?_
   refine nR (fun y FF hA => az V.s3 rfl aB rfl) ?_
   refine nE (fun y FF hA => aV (Post := []) (iy h.ar) V.qf rfl .nil (fun v G h => by rcases h with ⟨rfl, rfl⟩; exact ⟨rfl, .refl _⟩)) ?_
   refine nV (fun y hA L => gG rfl rfl wI) ?_
   refine nV (fun y hA L => c9 (cG rfl rfl) (by omega)) ?_
   refine cQ ?_
   intro y hA
   clear hA
   refine bj ?_
   refine bD _ (.cons (d := 0) rfl (.cons (d := 42) rfl (.nil _))) ?_
   refine a7 (M := ai bf 90 [.int .i64 h.w, .int .i64 h.h, .int .i64 h.dep, .int .i64 h.ar, .bool h.ba, .slice pp pl.length cp, .slice pt tr.length ct, .slice pd nd cd, .slice none 0 0] :: R :: F) (fun _ _ h => h) ?_
   refine rC TT 9 rfl ?_
   obtain rfl : t = false := ht.trans (decide_eq_false a)
   exact ag (av rfl) ⟨none, 0, 0, [], (fun q => by cases q), rfl, rfl, rfl⟩ ((da (A := Row (aC 3 .i64) none 0 0 []) (fun w0 => Row.nil _ _ _)).trans (sub (.cons ax (aO .nil)) ak))
  ·refine (Qm)<|(Qk)<|(Q3)<|(pH)<|(Qc)<|(HN)<|(Ql) ?_
   have hpp : aa.parts h.ar = 1 := by rw [a2]; unfold aa.parts; rfl
   have hc2 : h.ar = 0 ∨ h.ar = 2 := .inl a2
   refine wN [pz 0 [] [0], pz 1 [0] [], pz 3 [1] [], pz 7 [2] [], pz 15 [3] [], pz 0 [] [0], pz 32 [5] [], pz 96 [6] [], pz 224 [7] [], pz 480 [8] [], pz 992 [9] [], pz 2016 [10] [], pz 4095 [4, 11] []] [⟨fun y => ai bf 90 [.int .i64 h.w, .int .i64 h.h, .int .i64 h.dep, .int .i64 h.ar, .bool h.ba, .slice pp pl.length cp, .slice pt tr.length ct, .slice pd nd cd, .slice none 0 0], none, none, [3, 9]⟩, ⟨fun y => R, none, none, []⟩] F V.mixed ?_
   refine nM ?_
   refine nN ?_
   refine nG V.sD ?_
   refine nR (fun y FF hA => az V.jw rfl aB rfl) ?_
   refine nV (fun y hA L => ko (ty' := 0) Tryz.underlying22 rfl) ?_
   refine nM ?_
   refine nN ?_
   refine nG V.gC ?_
   refine nG V.qg ?_
   refine nR (fun y FF hA => az V.s3 rfl aB rfl) ?_
   refine nE (fun y FF hA => aV (Post := []) (iy h.ar) V.qf rfl .nil (fun v G h => by rcases h with ⟨rfl, rfl⟩; exact ⟨rfl, .refl _⟩)) ?_
   refine nV (fun y hA L => gG rfl rfl wI) ?_
   refine nV (fun y hA L => bS (cG rfl rfl) (by omega)) ?_
   refine cQ ?_
   intro y hA
   clear hA
   refine bj ?_
   refine bD _ (.cons (d := 0) rfl (.cons (d := 42) rfl (.nil _))) ?_
   refine a7 (M := ai bf 90 [.int .i64 h.w, .int .i64 h.h, .int .i64 h.dep, .int .i64 h.ar, .bool h.ba, .slice pp pl.length cp, .slice pt tr.length ct, .slice pd nd cd, .slice none 0 0] :: R :: F) (fun _ _ h => h) ?_
   refine rC TT 3 rfl ?_
   refine j1 (()) ?_ (jx ln) (sub (aO .nil) ak)
   exact ⟨hc2, by omega, by omega, by omega, a⟩
  ·refine (Qm)<|(Qk)<|(Q3)<|(pH)<|(Qc)<|(xz)<|(Q3) ?_
   refine oV (c9 (dz rfl rfl) a4)<|(Q3) ?_
   have hpp : aa.parts h.ar = 3 := by rw [a4]; unfold aa.parts; rfl
   refine wN [pz 0 [] [0], pz 1 [0] [], pz 3 [1] [], pz 7 [2] [], pz 15 [3] [], pz 0 [] [0], pz 32 [5] [], pz 96 [6] [], pz 224 [7] [], pz 480 [8] [], pz 992 [9] [], pz 2016 [10] [], pz 4095 [4, 11] []] [⟨fun y => ai bf 90 [.int .i64 h.w, .int .i64 h.h, .int .i64 h.dep, .int .i64 h.ar, .bool h.ba, .slice pp pl.length cp, .slice pt tr.length ct, .slice pd nd cd, .slice none 0 0], none, none, [3, 9]⟩, ⟨fun y => R, none, none, []⟩] F V.mixed ?_
   refine nM ?_
   refine nN ?_
   refine nG V.sD ?_
   refine nR (fun y FF hA => az V.jw rfl aB rfl) ?_
   refine nV (fun y hA L => ko (ty' := 0) Tryz.underlying22 rfl) ?_
   refine nM ?_
   refine nN ?_
   refine nG V.gC ?_
   refine nG V.qg ?_
   refine nR (fun y FF hA => az V.s3 rfl aB rfl) ?_
   refine nE (fun y FF hA => aV (Post := []) (iy h.ar) V.qf rfl .nil (fun v G h => by rcases h with ⟨rfl, rfl⟩; exact ⟨rfl, .refl _⟩)) ?_
   refine nV (fun y hA L => gG rfl rfl wI) ?_
   refine nV (fun y hA L => c9 (cG rfl rfl) (by omega)) ?_
   refine cQ ?_
   intro y hA
   clear hA
   refine bj ?_
   refine bD _ (.cons (d := 0) rfl (.cons (d := 42) rfl (.nil _))) ?_
   refine a7 (M := ai bf 90 [.int .i64 h.w, .int .i64 h.h, .int .i64 h.dep, .int .i64 h.ar, .bool h.ba, .slice pp pl.length cp, .slice pt tr.length ct, .slice pd nd cd, .slice none 0 0] :: R :: F) (fun _ _ h => h) ?_
   refine rC TT 9 rfl ?_
   obtain rfl : t = false := ht.trans (decide_eq_false a)
   exact ag (av rfl) ⟨none, 0, 0, [], (fun q => by cases q), rfl, rfl, rfl⟩ ((da (A := Row (aC 3 .i64) none 0 0 []) (fun w0 => Row.nil _ _ _)).trans (sub (.cons ax (aO .nil)) ak))
  ·refine (Qm)<|(Qk)<|(Q3)<|(pH)<|(Qc)<|(xz)<|(Q3) ?_
   refine oV (c9 (dz rfl rfl) a4)<|(Q3) ?_
   have hpp : aa.parts h.ar = 3 := by rw [a4]; unfold aa.parts; rfl
   have hc2 : h.ar = 0 ∨ h.ar = 2 := .inr a4
   refine wN [pz 0 [] [0], pz 1 [0] [], pz 3 [1] [], pz 7 [2] [], pz 15 [3] [], pz 0 [] [0], pz 32 [5] [], pz 96 [6] [], pz 224 [7] [], pz 480 [8] [], pz 992 [9] [], pz 2016 [10] [], pz 4095 [4, 11] []] [⟨fun y => ai bf 90 [.int .i64 h.w, .int .i64 h.h, .int .i64 h.dep, .int .i64 h.ar, .bool h.ba, .slice pp pl.length cp, .slice pt tr.length ct, .slice pd nd cd, .slice none 0 0], none, none, [3, 9]⟩, ⟨fun y => R, none, none, []⟩] F V.mixed ?_
   refine nM ?_
   refine nN ?_
   refine nG V.sD ?_
   refine nR (fun y FF hA => az V.jw rfl aB rfl) ?_
   refine nV (fun y hA L => ko (ty' := 0) Tryz.underlying22 rfl) ?_
   refine nM ?_
   refine nN ?_
   refine nG V.gC ?_
   refine nG V.qg ?_
   refine nR (fun y FF hA => az V.s3 rfl aB rfl) ?_
   refine nE (fun y FF hA => aV (Post := []) (iy h.ar) V.qf rfl .nil (fun v G h => by rcases h with ⟨rfl, rfl⟩; exact ⟨rfl, .refl _⟩)) ?_
   refine nV (fun y hA L => gG rfl rfl wI) ?_
   refine nV (fun y hA L => bS (cG rfl rfl) (by omega)) ?_
   refine cQ ?_
   intro y hA
   clear hA
   refine bj ?_
   refine bD _ (.cons (d := 0) rfl (.cons (d := 42) rfl (.nil _))) ?_
   refine a7 (M := ai bf 90 [.int .i64 h.w, .int .i64 h.h, .int .i64 h.dep, .int .i64 h.ar, .bool h.ba, .slice pp pl.length cp, .slice pt tr.length ct, .slice pd nd cd, .slice none 0 0] :: R :: F) (fun _ _ h => h) ?_
   refine rC TT 3 rfl ?_
   refine j1 (()) ?_ (jx ln) (sub (aO .nil) ak)
   exact ⟨hc2, by omega, by omega, by omega, a⟩
  ·refine (Qm)<|(Qk)<|(Q3)<|(pH)<|(Qc)<|(xz)<|(Q3)<|(I5)<|(QI) ?_
   obtain rfl : t = false := ht.trans (decide_eq_false a)
   exact ag (av rfl) ⟨none, 0, 0, [], (fun q => by cases q), rfl, rfl, rfl⟩ ((da (A := Row (aC 3 .i64) none 0 0 []) (fun w0 => Row.nil _ _ _)).trans (sub (.cons ax (aO .nil)) ak))
 ·intro u
  rintro ⟨hc2, htp, hp1, hp3, hC⟩
  refine (Qf)<|(vk) ?_
  refine aj (w3 pt ct tr R hR htl) V.Re  rfl (.cons ax .nil) rfl ?_
  rintro _ _ ⟨bx, rfl, rfl⟩
  refine (Qe)<|(wL) ?_
  refine aj (iy h.ar) V.qf  rfl .nil rfl ?_
  rintro _ _ ⟨rfl, rfl⟩
  refine (Q8) ?_
  refine iP (Row (aC 3 .i64) none 0 0 []) (Row.nil _ _ _) ?_
  rw [show ([] : List Int) = (aa.aR h tr).take 0 from rfl]
  refine gN (fun (k : Nat) (pk : Option Addr) (ck : Nat) => [(0, .pointer (some ⟨bf, 0, none⟩)), (5, .pointer (some ⟨bx, 0, none⟩)), (53, .int .i64 (aa.parts h.ar)), (54, .int .i64 (k : Int))]) (fun (k : Nat) (pk : Option Addr) (ck : Nat) => ai bf 90 [.int .i64 h.w, .int .i64 h.h, .int .i64 h.dep, .int .i64 h.ar, .bool h.ba, .slice pp pl.length cp, .slice pt tr.length ct, .slice pd nd cd, .slice pk k ck] :: Row (aC 3 .i64) pk k ck ((aa.aR h tr).take k) :: HW bx tr (16 * k) [] 0 :: R :: F) (fun (k : Nat) (pk : Option Addr) (ck : Nat) => (k : Int) ≤ aa.parts h.ar) (fun (k : Nat) (pk : Option Addr) (ck : Nat) => (aa.parts h.ar).toNat - k) (i3 (0) (none) (0) ?_ (eg ln) (sub (.cons dk (eU .nil)) ak)) ?_
  ·omega
  intro k pk ck
  rintro hk
  refine (Qm) ?_
  refine aD rfl (fun h55 => ?_) (fun h55 => ?_)
  ·refine (Q5) ?_
   have hck := aa.Sr (trns := tr) hc2 (by omega) (i := k) (by omega)
   refine jg [pz 0 [] [0], pz 0 [] [0], pz 2 [1] [], pz 6 [2] [], pz 14 [3] [], pz 0 [] [5], pz 32 [5] [], pz 0 [] [0], pz 128 [7] [], pz 384 [8] [], pz 896 [9] [], pz 1920 [10] [], pz 3968 [11] [], pz 8064 [12] [], pz 16352 [6, 13] [], pz 32736 [14] [], pz 65534 [4, 15] [], pz 131071 [0] [], pz 262143 [17] [], pz 524287 [18, 16] []] [⟨fun y => ai bf 90 [.int .i64 h.w, .int .i64 h.h, .int .i64 h.dep, .int .i64 h.ar, .bool h.ba, .slice pp pl.length cp, .slice pt tr.length ct, .slice pd nd cd, .slice pk k ck], none, some 19, [4, 11]⟩, ⟨fun y => Row (aC 3 .i64) pk k ck ((aa.aR h tr).take k), none, some 16, []⟩, ⟨fun y => HW bx tr (16 * k) [] 0, none, some 6, []⟩, ⟨fun y => R, none, none, []⟩, ⟨fun y => HW bx tr (16 * k + 16) [] 0, some 6, none, []⟩, ⟨fun y => Row (I3) (some ⟨(eu (cB (y 15))), 0, none⟩) 1 1 [((aa.bO tr (16 * k) 16) % P)], some 15, none, [16]⟩, ⟨fun y => Row (I3) (cB (y 16)) (k + 1) (dS (y 16)) (((aa.aR h tr).take k) ++ [((aa.bO tr (16 * k) 16) % P)]), some 16, none, []⟩, ⟨fun y => ai bf 90 [.int .i64 h.w, .int .i64 h.h, .int .i64 h.dep, .int .i64 h.ar, .bool h.ba, .slice pp pl.length cp, .slice pt tr.length ct, .slice pd nd cd, .slice (cB (y 16)) (k + 1) (dS (y 16))], some 19, none, []⟩] F V.mixed (by kernel_rfl) rfl (fun _ => .refl _) (aS _ (aS _ (aS _ (aS _ (cI _ rfl (by intro y y2 h; rfl) (cI _ rfl (by intro y y2 h; simp only [h 15 (.inl rfl)]) (cI _ rfl (by intro y y2 h; simp only [h 16 (.inl rfl)]) (cI _ rfl (by intro y y2 h; simp only [h 16 (.inr (by decide))]) fg)))))))) ?_
   iterate 2 refine nM ?_
   refine nN ?_
   refine nG V.H3 ?_
   refine (MY) ?_
   refine nM ?_
   refine nE (fun y FF hA => aV (Post := [HW bx tr (16 * k + 16) [] 0]) (jC bx tr (16 * k) [] 0 16 htl hB (by decide) (by omega)) V.sx rfl (ao .nil) (fun v G h => by rcases h with ⟨rfl, rfl⟩; exact ⟨rfl, .refl _⟩)) ?_
   refine nM ?_
   refine nN ?_
   refine (Yy) ?_
   refine nG V.vW ?_
   refine (Qy) ?_
   refine nV (fun y hA L => gA (r := P) rfl rfl (by omega) ((aa.AH hd).trans hP.symm)) ?_
   refine (uV) ?_
   refine nV (fun y hA L => jk (r := ((aa.bO tr (16 * k) 16) % P)) rfl rfl (aa.Jv hP hd (aa.Bi tr (16 * k)))) ?_
   refine ek (fun y v => .slice (some ⟨eu (cB v), 0, none⟩) 1 1) (fun y v => True) _ _ (fun y v => [Row (I3) (some ⟨(eu (cB v)), 0, none⟩) 1 1 [((aa.bO tr (16 * k) 16) % P)]]) _ (fun y => rfl) (fun y => rfl) (fun y => rfl) (fun y => rfl) (fun y FF hA => uG (od (I3) ([((aa.bO tr (16 * k) 16) % P)]) V.cH V.z3 rfl rfl rfl rfl rfl)) (by intros; rfl) (by intros; rfl) (by intros; rfl) (by intro y y2 h; simp only [h 15 (.inl rfl)]) (by intro y y2 h; rfl) ?_
   refine ek (fun y v => .slice (cB v) (k + 1) (dS v)) (fun y v => True) _ _ (fun y v => [Row (I3) (cB v) (k + 1) (dS v) (((aa.aR h tr).take k) ++ [((aa.bO tr (16 * k) 16) % P)])]) _ (fun y => rfl) (fun y => rfl) (fun y => rfl) (fun y => rfl) (fun y FF hA => uk (pN (c := (I3)) V.cH V.z3 rfl rfl rfl rfl dj (own dC) (by omega)) (.refl _)) (by intros; rfl) (by intros; rfl) (by intros; rfl) (by intro y y2 h; simp only [h 15 (.inr (by decide)), h 16 (.inl rfl)]) (by intro y y2 h; rfl) ?_
   refine nN ?_
   refine nG V.H3 ?_
   refine nE (fun y FF hA => de (dD V.lZ rfl rfl rfl (by exact fO) (by exact Nat.le_of_ble_eq_true rfl) rfl) ⟨rfl, .refl _⟩) ?_
   refine (Qb) ?_
   intro y hA
   clear hA
   show ks _ _ _ _ (R :: HW bx tr (16 * k + 16) [] 0 :: Row (I3) (some ⟨(eu (cB (y 15))), 0, none⟩) 1 1 [((aa.bO tr (16 * k) 16) % P)] :: Row (I3) (cB (y 16)) (k + 1) (dS (y 16)) (((aa.aR h tr).take k) ++ [((aa.bO tr (16 * k) 16) % P)]) :: ai bf 90 [.int .i64 h.w, .int .i64 h.h, .int .i64 h.dep, .int .i64 h.ar, .bool h.ba, .slice pp pl.length cp, .slice pt tr.length ct, .slice pd nd cd, .slice (cB (y 16)) (k + 1) (dS (y 16))] :: F)
   generalize (eu (cB (y 15))) = b71
   generalize (cB (y 16)) = p72
   generalize (dS (y 16)) = c72
   refine jh<|bj<|(Qo)<|(zZ)<|(Q7) ?_
   refine c4 ?_
   rw [show ((aa.aR h tr).take k) ++ [((aa.bO tr (16 * k) 16) % P)] = (aa.aR h tr).take (k + 1) from by rw [hck.1, aa.FM hB, ← hP]]
   exact j3 (k + 1) _ _ ⟨by omega, by omega⟩ (eg ln) (sub (.cons iB (.cons dk (.cons ax (ao .nil)))) bu)
  ·refine (ox) ?_
   obtain rfl : t = true := ht.trans (decide_eq_true hC)
   have hcl := aa.LJ (trns := tr) hc2 (by omega)
   obtain rfl : k = (aa.parts h.ar).toNat := by omega
   rw [← hcl, List.take_length]
   exact ag (av rfl) ⟨pk, _, ck, (aa.aR h tr), fun _ => rfl, rfl, rfl, rfl⟩ (sub (aO (.cons ax .nil)) bu)
end Go.Proofs.YtmaiakpjgomnpaaGreat
namespace Go.Proofs.YtmaiakpjgomnpaaGreat
open Go.Sl
theorem V.NX : ay Tryz.prog 171 = true := by kernel_rfl
theorem V.On : ay Tryz.prog 173 = true := by kernel_rfl
theorem V.Bw : ay Tryz.prog 184 = true := by kernel_rfl
end Go.Proofs.YtmaiakpjgomnpaaGreat

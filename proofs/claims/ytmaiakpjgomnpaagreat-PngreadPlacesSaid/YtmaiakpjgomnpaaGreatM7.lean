/- Walks of functions that the law reaches, and what they lean on; no conditions. -/
import Derived.Test.YtmaiakpjgomnpaaGreatM0
import Derived.Test.YtmaiakpjgomnpaaGreatM4
import Derived.Test.YtmaiakpjgomnpaaGreatM2
import Derived.Test.YtmaiakpjgomnpaaGreatM1
import Derived.KernelRfl
import Derived.Test.YtmaiakpjgomnpaaGreatM6
set_option linter.unusedVariables false
set_option linter.unusedSimpArgs false
set_option maxRecDepth 100000
namespace Go.Proofs.YtmaiakpjgomnpaaGreat
open Go.Sl 
attribute [local irreducible] af.ak aa.fO aa.fK aa.dp aa.fq aa.eH aa.gA aa.gj aa.first
section
variable {C : Ctx} {E : Env} {L : List ab} {ty : TypeId}
theorem oA {t u u2 T n b T' : Nat} {cs : List Value} {v2 v3 : Value} (hs : gf C.P T = some n) (h1 : E.get t = some (.pointer (some ⟨b, 0, none⟩))) (hm : ai b T' cs ∈ L) (hn : cs.length = n) (h2 : E.get u = some v2) (h3 : E.get u2 = some v3) : ks C #[.cell t T, .tmp u, .tmp u2] E L (.tuple #[.agg cs.toArray, v2, v3]) := fun fn a w hr ha hi => by
 obtain ⟨g1, g2⟩ := kI hs w
 obtain ⟨F, hF⟩ := hi.mem hm
 have := run_loadCells_list (P := C.P) w ⟨b, 0, none⟩ cs (fun j v hj => by rw [Addr.fa, hF.ie, ← hj]; simp)
 rw [hn] at this
 simp [results, hr, ha.get _ _ h1, ha.get _ _ h2, ha.get _ _ h3, asAddr, loadVar, g1, g2, this]
end
theorem Ds (p : Option Addr) (c n : Nat) (L : List Int) (R : ab) (hR : ∀ w0 h, R w0 h → aE U5 p n L w0 h) (hn : L.length = n) (hB : af.ak L) (h4 : 4 ≤ n) (hcap : n ≤ c) : aC Tryz.prog 112 [.slice p n c] [R] (aG fun v G => v = .int .i64 (aH.cV L) ∧ G = [R]) := by
 subst hn; exact w5 p c L R hR hB h4 hcap
theorem Gy (p : Option Addr) (c n : Nat) (L : List Int) (R : ab) (hR : ∀ w0 h, R w0 h → aE U5 p n L w0 h) (hn : L.length = n) (hB : af.ak L) (p2 : Option Addr) (c2 n2 : Nat) (D : List Int) (R2 : ab) (hR2 : ∀ w0 h, R2 w0 h → aE U5 p2 n2 D w0 h) (hn2 : D.length = n2) (hD : af.ak D) (t : Bool) (ht : t = decide (L = D)) : aC Tryz.prog 110 [.slice p n c, .slice p2 n2 c2] [R, R2] (aG fun v G => v = .bool t ∧ G = [R, R2]) := by
 subst hn; subst hn2; exact Kx p c L R hR hB p2 c2 D R2 hR2 hD t ht
theorem FR (bt : Nat) (kk : List Int) (hk : af.ak kk) (hkl : kk.length < 500000000) (p : Option Addr) (c n : Nat) (L : List Int) (R : ab) (hR : ∀ w0 h, R w0 h → aE U5 p n L w0 h) (hn : L.length = n) (hl : n < 500000000) (hB : af.ak L) : aC Tryz.prog 109 [.pointer (some ⟨bt, 0, none⟩), .string (strOfNums kk), .slice p n c] [ai bt 175 (CA [] .u32 aa.eH []), R] (aG fun v G => v = .int .u32 (aa.gj kk L) ∧ G = [ai bt 175 (CA [] .u32 aa.eH []), R]) := by
 subst hn; exact Lb bt kk hk hkl p c L R hR hl hB
theorem Gh (kk : List Int) (hk : af.ak kk) (hkl : kk.length < 500000000) (p : Option Addr) (c n : Nat) (L : List Int) (R : ab) (hR : ∀ w0 h, R w0 h → aE U5 p n L w0 h) (hn : L.length = n) (hl : n < 500000000) (hB : af.ak L) : aC Tryz.prog 66 [.string (strOfNums kk), .slice p n c] [R] (aG fun v G => v = .int .u32 (aa.gj kk L) ∧ G = [R]) := by
 subst hn; exact LC kk hk hkl p c L R hR hl hB
theorem Gu (p : Option Addr) (c n : Nat) (L : List Int) (R : ab) (hR : ∀ w0 h, R w0 h → aE U5 p n L w0 h) (hn : L.length = n) (hl : n < 500000000) : aC Tryz.prog 91 [.slice p n c] [R] (aG fun v G => ∃ q cq, v = .slice q n cq ∧ G = [Row U5 q n cq L, R]) := by
 subst hn; exact nD p c L R hR hl
set_option maxHeartbeats 1000000 in
theorem FY (p : Option Addr) (c : Nat) (B : List Int) (R : ab) (hR : ∀ w0 h, R w0 h → aE U5 p B.length B w0 h) (hB : af.ak B) (hcap : B.length ≤ c) (p2 : Option Addr) (c2 : Nat) (D : List Int) (R2 : ab) (hR2 : ∀ w0 h, R2 w0 h → aE U5 p2 D.length D w0 h) (hD : af.ak D) (hlen : D.length ≤ B.length) (t : Bool) (ht : t = decide (B.take D.length = D)) : aC Tryz.prog 77 [.slice p B.length c, .slice p2 D.length c2] [R, R2] (aG fun v G => v = .bool t ∧ G = [R, R2]) := by
 refine au [(0, _), (1, _)] Tryz.func77 rfl Tryz.ntmps77 rfl rfl ?_
 intro w0 F
 refine rT TT 11 rfl<|(QN)<|(Qz) ?_
 refine oV (iK D.length _ V.bK rfl ⟨_, rfl⟩ rfl (by omega) (by omega))<|(Q0)<|(rD) ?_
 refine aj (Gy p c D.length (B.take D.length) R (kV (cap := 0) hR D.length hlen) (by rw [List.length_take]; omega) (aa.fU hB _) p2 c2 D.length D R2 hR2 rfl hD t ht) V.BF  rfl (aT .nil) rfl ?_
 rintro _ _ ⟨rfl, rfl⟩
 refine (Q3) ?_
 exact ag (aw rfl) ⟨rfl, rfl⟩ (sub (aT .nil) ao)
set_option maxHeartbeats 4000000 in
theorem AD (bt : Nat) (p : Option Addr) (c : Nat) (B : List Int) (R : ab) (hR : ∀ w0 h, R w0 h → aE U5 p B.length B w0 h) (hl : B.length < 500000000) (hB : af.ak B) (hcap : B.length ≤ c) : aC Tryz.prog 79 [.slice p B.length c, .pointer (some ⟨bt, 0, none⟩)] [ai bt 175 (CA [] .u32 aa.eH []), R] (aG fun v G => (∃ e, aa.first B = .error e ∧ v = .tuple #[.agg #[.string ByteArray.empty, .slice none 0 0], .int .i64 0, .int .i64 e] ∧ G = [ai bt 175 (CA [] .u32 aa.eH []), R]) ∨ (∃ x q cq, aa.first B = .ok x ∧ v = .tuple #[.agg #[.string (strOfNums x.k), .slice q x.d.length cq], .int .i64 ((12 + x.d.length : Nat) : Int), .int .i64 0] ∧ G = [Row U5 q x.d.length cq x.d, ai bt 175 (CA [] .u32 aa.eH []), R])) := by
 refine au [(0, _), (1, _)] Tryz.func79 rfl Tryz.ntmps79 rfl rfl ?_
 intro w0 F
 refine (Qr)<|(yr) ?_
 intro b4
 refine (Q8) ?_
 rcases (aa.zg hB) with ⟨h12, hf⟩ | ⟨n, h12, hn, hnb, hbig, hf⟩ | ⟨n, h12, hn, hnb, hnm, hf⟩ | ⟨n, h12, hn, hnb, hnm, hlt, hf⟩ | ⟨n, h12, hn, hnb, hnm, hge, hsum, hf⟩ | ⟨n, h12, hn, hnb, hnm, hge, hsum, hf⟩
 ·refine (Qg)<|(QO)<|(Q3)<|(Em)<|(rB)<|(Q1) ?_
  exact ag (oA V.oF rfl aA rfl rfl rfl) (.inl ⟨2, hf, rfl, rfl⟩) (sub (.cons ay (.cons ay .nil)) bC)
 ·refine (AO)<|(Q1) ?_
  have hS : ∀ w0 h, R w0 h → aE U5 (dm p 4 c 1) (8 - 4) ((B.drop 4).take 4) w0 h := fun w0 h hh => (hR w0 h hh).sub 4 8 c (by decide) (by omega) (by omega)
  refine (EM) ?_
  refine nM ?_
  refine (CP) ?_
  refine nM ?_
  refine (Fx) ?_
  refine (FK) ?_
  iterate 2 refine nA ?_
  refine (Qb) ?_
  intro y hA
  clear hA
  refine bg<|(Dh)<|(C7)<|(Q4) ?_
  rw [hn]
  refine (Qa)<|(Qt)<|(Qs)<|(Em)<|(rB)<|(Qc) ?_
  exact ag (oA V.oF rfl aA rfl rfl rfl) (.inl ⟨4, hf, rfl, rfl⟩) (sub (.cons ay (.cons ay .nil)) bC)
 ·refine (AO)<|(Q1) ?_
  have hS : ∀ w0 h, R w0 h → aE U5 (dm p 4 c 1) (8 - 4) ((B.drop 4).take 4) w0 h := fun w0 h hh => (hR w0 h hh).sub 4 8 c (by decide) (by omega) (by omega)
  refine (EM) ?_
  refine nM ?_
  refine (CP) ?_
  refine nM ?_
  refine (Fx) ?_
  refine (FK) ?_
  iterate 2 refine nA ?_
  refine (Qb) ?_
  intro y hA
  clear hA
  refine bg<|(Dh)<|(C7)<|(Q4) ?_
  rw [hn]
  refine rC TT 2 rfl ?_
  refine oV (bR (ed rfl rfl) (by omega)) ?_
  refine rO TT 2 rfl ?_
  refine cL rfl ?_
  refine aj (lT ((B.drop 4).take 4) (aa.fU (aa.dT hB 4) 4) (by rw [aa.j9 (by omega)]; decide) false (decide_eq_false hnm).symm) V.uC  rfl .nil rfl ?_
  rintro _ _ ⟨rfl, rfl⟩
  refine (Qj)<|(Em)<|(rB)<|(Qc) ?_
  exact ag (oA V.oF rfl aA rfl rfl rfl) (.inl ⟨4, hf, rfl, rfl⟩) (sub (.cons ay (.cons ay .nil)) bC)
 ·refine (AO)<|(Q1) ?_
  have hS : ∀ w0 h, R w0 h → aE U5 (dm p 4 c 1) (8 - 4) ((B.drop 4).take 4) w0 h := fun w0 h hh => (hR w0 h hh).sub 4 8 c (by decide) (by omega) (by omega)
  refine (EM) ?_
  refine nM ?_
  refine (CP) ?_
  refine nM ?_
  refine (Fx) ?_
  refine (FK) ?_
  iterate 2 refine nA ?_
  refine (Qb) ?_
  intro y hA
  clear hA
  refine bg<|(Dh)<|(C7)<|(Q4) ?_
  rw [hn]
  refine (Qa) ?_
  refine (Qq) ?_
  refine (Q7) ?_
  refine (Q0) ?_
  refine (Rr) ?_
  rintro _ _ ⟨rfl, rfl⟩
  refine (Ah)<|(Qt)<|(Q1)<|(Em)<|(rB)<|(Qc) ?_
  exact ag (oA V.oF rfl aA rfl rfl rfl) (.inl ⟨2, hf, rfl, rfl⟩) (sub (.cons ay (.cons ay .nil)) bC)
 ·refine (AO)<|(Q1) ?_
  have hS : ∀ w0 h, R w0 h → aE U5 (dm p 4 c 1) (8 - 4) ((B.drop 4).take 4) w0 h := fun w0 h hh => (hR w0 h hh).sub 4 8 c (by decide) (by omega) (by omega)
  refine (EM) ?_
  refine nM ?_
  refine (CP) ?_
  refine nM ?_
  refine (Fx) ?_
  refine (FK) ?_
  iterate 2 refine nA ?_
  refine (Qb) ?_
  intro y hA
  clear hA
  refine bg<|(Dh)<|(C7)<|(Q4) ?_
  rw [hn]
  refine (Qa) ?_
  refine (Qq) ?_
  refine (Q7) ?_
  refine (Q0) ?_
  refine (Rr) ?_
  rintro _ _ ⟨rfl, rfl⟩
  refine (Ah)<|(Qq)<|(Qj) ?_
  have hk4 := aa.fU (aa.dT hB 4) 4
  have AL := aa.fU (aa.dT hB 8) n
  have hb8 := aa.dT hB (8 + n)
  have hn4 := aa.uy hb8
  have hX8 : ∀ w0 h, R w0 h → aE U5 (dm p 8 c 1) (8 + n - 8) ((B.drop 8).take n) w0 h := fun w0 h hh => by have h1 := (hR w0 h hh).sub 8 (8 + n) c (by omega) (by omega) (by omega); rwa [Nat.add_sub_cancel_left] at h1 ⊢
  have hXn : ∀ w0 h, R w0 h → aE U5 (dm p (8 + n) c 1) (B.length - (8 + n)) (B.drop (8 + n)) w0 h := fun w0 h hh => fT (c := U5) hR rfl (8 + n) c (by omega) hcap w0 h hh
  refine (Q4)<|(JF)<|(Vv)<|(Qj)<|(JF)<|(Wh)<|(U8) ?_
  rintro _ _ ⟨rfl, rfl⟩
  refine (Wj)<|(Wa) ?_
  rintro _ _ ⟨rfl, rfl⟩
  refine oV (bR (cE rfl rfl) (fun h => h hsum))<|(Qn) ?_
  refine aj (Gu (dm p 8 c 1) (c - 8) (8 + n - 8) ((B.drop 8).take n) R hX8 (by rw [aa.j9 (by omega)]; omega) (by omega)) V.zw  rfl (.cons ay .nil) rfl ?_
  rintro _ _ ⟨q53, c53, rfl, rfl⟩
  refine oV (c5 V.Nt V.Fo rfl (cs := [.string (strOfNums ((B.drop 4).take 4)), .slice q53 (8 + n - 8) c53]) rfl)<|(Q6) ?_
  refine oV (de (v := .int .i64 ((12 + n : Nat) : Int)) (eb rfl rfl wI) (by congr 1))<|cu (bd V.oF rfl rfl (us := [_, _]) rfl rfl (by exact JA) (by exact Nat.le_of_ble_eq_true rfl) rfl)<|(Q3) ?_
  have hdl := aa.j9 (l := B) (i := 8) (n := n) (by omega)
  have e8 : 8 + n - 8 = ((B.drop 8).take n).length := by rw [hdl]; omega
  rw [e8, show (12 + n : Nat) = 12 + ((B.drop 8).take n).length from by rw [hdl]]
  exact ag (oA V.oF rfl ig rfl rfl rfl) (.inr ⟨_, _, _, hf, rfl, rfl⟩) (sub (aq (.cons ay (.cons dg .nil))) bC)
 ·refine (AO)<|(Q1) ?_
  have hS : ∀ w0 h, R w0 h → aE U5 (dm p 4 c 1) (8 - 4) ((B.drop 4).take 4) w0 h := fun w0 h hh => (hR w0 h hh).sub 4 8 c (by decide) (by omega) (by omega)
  refine (EM) ?_
  refine nM ?_
  refine (CP) ?_
  refine nM ?_
  refine (Fx) ?_
  refine (FK) ?_
  iterate 2 refine nA ?_
  refine (Qb) ?_
  intro y hA
  clear hA
  refine bg<|(Dh)<|(C7)<|(Q4) ?_
  rw [hn]
  refine (Qa) ?_
  refine (Qq) ?_
  refine (Q7) ?_
  refine (Q0) ?_
  refine (Rr) ?_
  rintro _ _ ⟨rfl, rfl⟩
  refine (Ah)<|(Qq)<|(Qj) ?_
  have hk4 := aa.fU (aa.dT hB 4) 4
  have AL := aa.fU (aa.dT hB 8) n
  have hb8 := aa.dT hB (8 + n)
  have hn4 := aa.uy hb8
  have hX8 : ∀ w0 h, R w0 h → aE U5 (dm p 8 c 1) (8 + n - 8) ((B.drop 8).take n) w0 h := fun w0 h hh => by have h1 := (hR w0 h hh).sub 8 (8 + n) c (by omega) (by omega) (by omega); rwa [Nat.add_sub_cancel_left] at h1 ⊢
  have hXn : ∀ w0 h, R w0 h → aE U5 (dm p (8 + n) c 1) (B.length - (8 + n)) (B.drop (8 + n)) w0 h := fun w0 h hh => fT (c := U5) hR rfl (8 + n) c (by omega) hcap w0 h hh
  refine (Q4)<|(JF)<|(Vv)<|(Qj)<|(JF)<|(Wh)<|(U8) ?_
  rintro _ _ ⟨rfl, rfl⟩
  refine (Wj)<|(Wa) ?_
  rintro _ _ ⟨rfl, rfl⟩
  refine oV (cJ (cE rfl rfl) hsum)<|(Q3)<|(Em) ?_
  refine cu (bd V.oF rfl rfl (us := [_, _]) rfl rfl (by exact zf) (by exact Nat.le_of_ble_eq_true rfl) rfl)<|(Q1) ?_
  exact ag (oA V.oF rfl dL rfl rfl rfl) (.inl ⟨5, hf, rfl, rfl⟩) (sub (aT .nil) bC)
end Go.Proofs.YtmaiakpjgomnpaaGreat
namespace Go.Proofs.YtmaiakpjgomnpaaGreat
open Go.Sl
theorem V.ZA : aB Tryz.prog 76 = true := by kernel_rfl
theorem V.VK : aB Tryz.prog 77 = true := by kernel_rfl
theorem V.Zv : aB Tryz.prog 78 = true := by kernel_rfl
theorem V.WA : aB Tryz.prog 79 = true := by kernel_rfl
theorem V.T2 : a7 Tryz.prog 88 0 = some 0 := by kernel_rfl
theorem V.s9 : bP Tryz.prog 9 = true := by kernel_rfl
theorem V.rQ : sliceB Tryz.prog 84 = some (88, 2, 40) := by kernel_rfl
end Go.Proofs.YtmaiakpjgomnpaaGreat
namespace Go.Proofs.YtmaiakpjgomnpaaGreat
open Go.Sl 
attribute [local irreducible] af.ak aa.fO aa.fK aa.dp aa.fq aa.eH aa.gA aa.gj aa.first aa.cut aa.fx aa.ee aa.aY
structure Ce where
 k : List Int
 p : Option Addr
 c : Nat
 d : List Int
def Ce.ch (x : Ce) : aa.Ch := ⟨x.k, x.d⟩
def Vn (x : Ce) : Option Addr × List Int := (x.p, x.d)
abbrev CK : Ec Ce := ⟨88, 2, fun x => [.string (strOfNums x.k), .slice x.p x.d.length x.c], ⟨[], none, 0, []⟩, fun _ => rfl, fun _ => rfl⟩
abbrev DK (l : List Ce) : ab := FC U5 Vn l
def A5 (x : Ce) : Prop := x.d.length ≤ x.c
theorem zy {es : List Ce} {x : Ce} (h : ∀ y ∈ es, A5 y) (hx : x.d.length ≤ x.c) : ∀ y ∈ es ++ [x], A5 y := fun y hy => (List.mem_append.1 hy).elim (h y) (fun e => List.mem_singleton.1 e ▸ hx)
theorem GI (bt : Nat) (p : Option Addr) (c n : Nat) (L : List Int) (R : ab) (hR : ∀ w0 h, R w0 h → aE U5 p n L w0 h) (hn : L.length = n) (hl : n < 500000000) (hB : af.ak L) (hcap : n ≤ c) (e : Int) (hf : aa.first L = .error e) : aC Tryz.prog 79 [.slice p n c, .pointer (some ⟨bt, 0, none⟩)] [ai bt 175 (CA [] .u32 aa.eH []), R] (aG fun v G => v = .tuple #[.agg #[.string ByteArray.empty, .slice none 0 0], .int .i64 0, .int .i64 e] ∧ G = [ai bt 175 (CA [] .u32 aa.eH []), R]) := by
 subst hn
 refine (AD bt p c L R hR hl hB hcap).mono ?_
 rintro e2 G ⟨v, rfl, (⟨e', h, rfl, rfl⟩ | ⟨x, q, cq, h, _, _⟩)⟩
 ·rw [hf] at h; cases h; exact ⟨_, rfl, rfl, rfl⟩
 ·rw [hf] at h; cases h
theorem Hx (bt : Nat) (p : Option Addr) (c n : Nat) (L : List Int) (R : ab) (hR : ∀ w0 h, R w0 h → aE U5 p n L w0 h) (hn : L.length = n) (hl : n < 500000000) (hB : af.ak L) (hcap : n ≤ c) (x : aa.Ch) (hf : aa.first L = .ok x) : aC Tryz.prog 79 [.slice p n c, .pointer (some ⟨bt, 0, none⟩)] [ai bt 175 (CA [] .u32 aa.eH []), R] (aG fun v G => ∃ q cq, v = .tuple #[.agg #[.string (strOfNums x.k), .slice q x.d.length cq], .int .i64 ((12 + x.d.length : Nat) : Int), .int .i64 0] ∧ G = [Row U5 q x.d.length cq x.d, ai bt 175 (CA [] .u32 aa.eH []), R]) := by
 subst hn
 refine (AD bt p c L R hR hl hB hcap).mono ?_
 rintro e2 G ⟨v, rfl, (⟨e', h, _, _⟩ | ⟨x', q, cq, h, rfl, rfl⟩)⟩
 ·rw [hf] at h; cases h
 ·rw [hf] at h; cases h; exact ⟨_, rfl, q, cq, rfl, rfl⟩
theorem vS (p : Option Addr) (c n : Nat) (L : List Int) (R : ab) (hR : ∀ w0 h, R w0 h → aE U5 p n L w0 h) (hn : L.length = n) (hB : af.ak L) (hcap : n ≤ c) (p2 : Option Addr) (c2 n2 : Nat) (D : List Int) (R2 : ab) (hR2 : ∀ w0 h, R2 w0 h → aE U5 p2 n2 D w0 h) (hn2 : D.length = n2) (hD : af.ak D) (hlen : n2 ≤ n) (t : Bool) (ht : t = decide (L.take n2 = D)) : aC Tryz.prog 77 [.slice p n c, .slice p2 n2 c2] [R, R2] (aG fun v G => v = .bool t ∧ G = [R, R2]) := by
 subst hn; subst hn2; exact FY p c L R hR hB hcap p2 c2 D R2 hR2 hD hlen t ht
set_option maxHeartbeats 8000000 in
theorem Ia (p : Option Addr) (c : Nat) (B : List Int) (R : ab) (hR : ∀ w0 h, R w0 h → aE U5 p B.length B w0 h) (hl : B.length < 500000000) (hB : af.ak B) (hcap : B.length ≤ c) : aC Tryz.prog 37 [.slice p B.length c] [R] (aG fun v G => (∃ e, aa.cut B = .error e ∧ v = .tuple #[.slice none 0 0, .int .i64 e] ∧ G = [R]) ∨ (∃ q cq, ∃ es : List Ce, aa.cut B = .ok (es.map Ce.ch) ∧ es.length ≤ 262144 ∧ (∀ y ∈ es, A5 y) ∧ v = .tuple #[.slice q es.length cq, .int .i64 0] ∧ G = [Row CK q es.length cq es, DK es, R])) := by
 refine au [(0, _)] Tryz.func37 rfl Tryz.ntmps37 rfl rfl ?_
 intro w0 F
 refine (QJ) ?_
 refine aj (Oy) V.ZA  rfl .nil rfl ?_
 rintro _ _ ⟨b10, rfl, rfl⟩
 refine (Q3) ?_
 rcases (aa.Sh B) with ⟨h1, hc⟩ | ⟨h1, hc⟩ | ⟨h1, h2, hsg, hc⟩ | ⟨h1, h2, hsg, hc⟩
 ·refine (Q5)<|(Qt)<|(Qu) ?_
  exact ag (eC rfl rfl) (.inl ⟨3, hc, rfl, rfl⟩) (sub (.cons ay .nil) bC)
 ·refine (Q5)<|(Qq)<|(Qi)<|(QO)<|(Qu) ?_
  exact ag (eC rfl rfl) (.inl ⟨2, hc, rfl, rfl⟩) (sub (.cons ay .nil) bC)
 ·refine rC TT 4 rfl ?_
  refine oV (bR (ed rfl rfl) (by omega)) ?_
  refine rO TT 10 rfl ?_
  refine oV (bR (dW rfl rfl) (by omega)) ?_
  refine rO TT 8 rfl ?_
  refine aj (vS p c B.length B R hR rfl hB hcap (some ⟨b10, 0, none⟩) 8 8 aa.ee (Row U5 (some ⟨b10, 0, none⟩) 8 8 aa.ee) (fun _ _ hh => hh.rd) aa.w8 aa.sr (by omega) false (decide_eq_false hsg).symm) V.VK  rfl (.cons ay (aq .nil)) rfl ?_
  rintro _ _ ⟨rfl, rfl⟩
  refine (QP) ?_
  exact ag (eC rfl rfl) (.inl ⟨4, hc, rfl, rfl⟩) (sub (aq .nil) bC)
 ·refine rC TT 4 rfl ?_
  refine oV (bR (ed rfl rfl) (by omega)) ?_
  refine rO TT 10 rfl ?_
  refine oV (bR (dW rfl rfl) (by omega)) ?_
  refine rO TT 8 rfl ?_
  refine aj (vS p c B.length B R hR rfl hB hcap (some ⟨b10, 0, none⟩) 8 8 aa.ee (Row U5 (some ⟨b10, 0, none⟩) 8 8 aa.ee) (fun _ _ hh => hh.rd) aa.w8 aa.sr (by omega) true (decide_eq_true hsg).symm) V.VK  rfl (.cons ay (aq .nil)) rfl ?_
  rintro _ _ ⟨rfl, rfl⟩
  refine (Qi) ?_
  refine aj (Uc) V.Zv  rfl .nil rfl ?_
  rintro _ _ ⟨yi, rfl, rfl⟩
  refine (Qu) ?_
  refine oV (dY 8 B.length c V.bK rfl ⟨_, rfl⟩ ⟨rfl, rfl⟩ rfl (by omega) (by omega) (by omega))<|(Q8) ?_
  refine jk (DK []) (Ly _ _ _ _)<|jk (Row CK none 0 0 []) (Row.nil _ _ _) ?_
  rw [show B.length - 8 = (B.drop 8).length from List.length_drop.symm]
  refine AS (fun (f : Nat) (pz : Option Addr) (cz : Nat) (Z : List Int) (pl : Option Addr) (cl : Nat) (es : List Ce) => [(0, .slice pz Z.length cz), (5, .pointer (some ⟨yi, 0, none⟩)), (6, .slice pl es.length cl)]) (fun (f : Nat) (pz : Option Addr) (cz : Nat) (Z : List Int) (pl : Option Addr) (cl : Nat) (es : List Ce) => Row CK pl es.length cl es :: DK es :: ai yi 175 (CA [] .u32 aa.eH []) :: R :: F) (fun (f : Nat) (pz : Option Addr) (cz : Nat) (Z : List Int) (pl : Option Addr) (cl : Nat) (es : List Ce) => aa.fx f Z (es.map Ce.ch) = aa.cut B ∧ Z.length < f ∧ (∀ w0 h, R w0 h → aE U5 pz Z.length Z w0 h) ∧ Z.length ≤ cz ∧ af.ak Z ∧ es.length + Z.length ≤ 262144 ∧ (∀ y ∈ es, A5 y)) (fun (f : Nat) (pz : Option Addr) (cz : Nat) (Z : List Int) (pl : Option Addr) (cl : Nat) (es : List Ce) => f) (i7 ((B.length + 1)) ((dm p 8 c 1)) ((c - 8)) ((B.drop 8)) (none) (0) ([]) ?_ (fz ln) (sub (mH .nil) bC)) ?_
  ·exact ⟨hc, by rw [List.length_drop]; omega, by rw [List.length_drop]; exact fT (c := U5) hR rfl 8 c (by omega) hcap, by rw [List.length_drop]; omega, aa.dT hB 8, by rw [List.length_drop]; show 0 + _ ≤ _; omega, fun y hy => by cases hy⟩
  intro f pz cz Z pl cl es
  rintro ⟨hcut, hZf, hZR, hZc, hZB, hes, hco⟩
  obtain ⟨f, rfl⟩ : ∃ g, f = g + 1 := ⟨f - 1, by omega⟩
  refine rL TT 1 rfl ?_
  rcases (aa.Xy hZB) with ⟨e, hf, he⟩ | ⟨x, hf, hxl, hxn, hxB, hk⟩ | ⟨x, hf, hxl, hxn, hxB, hk⟩ | ⟨x, hf, hxl, hxn, hxB, hk⟩
  ·refine (Q5) ?_
   refine aj (GI yi pz cz Z.length Z R hZR rfl (by omega) hZB hZc e hf) V.WA  rfl (.cons bj (.cons bj .nil)) rfl ?_
   rintro _ _ ⟨rfl, rfl⟩
   refine (Q8)<|(yr) ?_
   intro b7
   refine (rB)<|(Qj) ?_
   refine oV (cJ (cE rfl rfl) he)<|(QK) ?_
   rw [aa.OO hf] at hcut
   exact ag (eC rfl rfl) (.inl ⟨e, hcut.symm, rfl, rfl⟩) (sub (.cons bj .nil) k6)
  ·refine (Q5)<|(Pe) ?_
   rintro _ _ ⟨q35, c35, rfl, rfl⟩
   refine (Q8)<|(yr) ?_
   intro b7
   refine (rB)<|(Qj)<|(MG)<|(Qn)<|(PW)<|(Q1)<|(Ew)<|(Pn) ?_
   intro b46
   refine (Oq) ?_
   intro p47 c47
   refine (Q3) ?_
   refine gU (fun w hi => eZ hi (show Row U5 q35 x.d.length c35 x.d ∈ _ by exact ig)) (fun hcx => ?_)
   refine (ND)<|(Qa) ?_
   refine oV (az V.s9 rfl ig rfl)<|oV (de (v := .bool true) (mz (r := false) (sK (aa.bo (aa.qF hxn)) (aa.bo aa.yI) hk) rfl (show an _ _ = some (.string (strOfNums aa.aY)) by unfold aa.aY; rfl)) rfl)<|(Q1) ?_
   have hdl : (Z.drop (12 + x.d.length)).length = Z.length - (12 + x.d.length) := List.length_drop
   have hel : (es ++ [(Ce.mk x.k q35 c35 x.d)]).length = es.length + 1 := by rw [List.length_append]; rfl
   rw [aa.OA hf hk, show es.map Ce.ch ++ [x] = (es ++ [(Ce.mk x.k q35 c35 x.d)]).map Ce.ch from by rw [List.map_append]; rfl] at hcut
   rw [← hdl, ← hel]
   exact j7 f _ _ (Z.drop (12 + x.d.length)) _ _ (es ++ [(Ce.mk x.k q35 c35 x.d)]) ⟨⟨hcut, by omega, by rw [hdl]; exact fT (c := U5) hZR rfl (12 + x.d.length) cz (by omega) hZc, by omega, aa.dT hZB _, by omega, zy hco hcx⟩, by omega⟩ (.cons rfl (.cons rfl (.cons rfl (.nil _)))) (sub (.cons ay (.cons dg (.cons bj (.cons bj .nil)))) fS)
  ·refine (Q5)<|(Pe) ?_
   rintro _ _ ⟨q35, c35, rfl, rfl⟩
   refine (Q8)<|(yr) ?_
   intro b7
   refine (rB)<|(Qj)<|(MG)<|(Qn)<|(PW)<|(Q1)<|(Ew)<|(Pn) ?_
   intro b46
   refine (Oq) ?_
   intro p47 c47
   refine (Q3) ?_
   refine gU (fun w hi => eZ hi (show Row U5 q35 x.d.length c35 x.d ∈ _ by exact ig)) (fun hcx => ?_)
   refine (ND)<|(Qa) ?_
   refine oV (az V.s9 rfl ig rfl)<|(VI)<|(Qi)<|(Qq) ?_
   refine rO TT 16 rfl ?_
   have hel : (es ++ [(Ce.mk x.k q35 c35 x.d)]).length = es.length + 1 := by rw [List.length_append]; rfl
   rw [aa.RL hf hk hxl, show es.map Ce.ch ++ [x] = (es ++ [(Ce.mk x.k q35 c35 x.d)]).map Ce.ch from by rw [List.map_append]; rfl] at hcut
   rw [← hel]
   exact ag (eC rfl rfl) (.inr ⟨_, _, _, hcut.symm, by omega, zy hco hcx, rfl, rfl⟩) (sub (.cons ay (aq (.cons dw .nil))) my)
  ·refine (Q5)<|(Pe) ?_
   rintro _ _ ⟨q35, c35, rfl, rfl⟩
   refine (Q8)<|(yr) ?_
   intro b7
   refine (rB)<|(Qj)<|(MG)<|(Qn)<|(PW)<|(Q1)<|(Ew)<|(Pn) ?_
   intro b46
   refine (Oq) ?_
   intro p47 c47
   refine (Q3) ?_
   refine gU (fun w hi => eZ hi (show Row U5 q35 x.d.length c35 x.d ∈ _ by exact ig)) (fun hcx => ?_)
   refine (ND)<|(Qa) ?_
   refine oV (az V.s9 rfl ig rfl)<|(VI)<|(Qi)<|(Qt)<|(QP) ?_
   rw [aa.N0 hf hk hxl] at hcut
   exact ag (eC rfl rfl) (.inl ⟨4, hcut.symm, rfl, rfl⟩) (sub (.cons jJ .nil) rn)
end Go.Proofs.YtmaiakpjgomnpaaGreat
namespace Go.Proofs.YtmaiakpjgomnpaaGreat
open Go.Sl
theorem V.RV : aB Tryz.prog 113 = true := by kernel_rfl
theorem V.OU : aB Tryz.prog 114 = true := by kernel_rfl
theorem V.Y9 : a7 Tryz.prog 137 0 = some 0 := by kernel_rfl
theorem V.Y4 : a7 Tryz.prog 137 1 = some 1 := by kernel_rfl
theorem V.Yq : a7 Tryz.prog 137 2 = some 2 := by kernel_rfl
theorem V.YS : a7 Tryz.prog 137 3 = some 3 := by kernel_rfl
end Go.Proofs.YtmaiakpjgomnpaaGreat
namespace Go.Proofs.YtmaiakpjgomnpaaGreat
open Go.Sl 
attribute [local irreducible] af.ak aa.fO aa.fK aa.dp aa.fq aa.eH aa.gA aa.ba aa.aN aa.aS aa.aY aa.bQ aa.fI aa.cY
set_option maxHeartbeats 1000000 in
theorem D3 (kk : List Int) (hk : af.ak kk) (hkl : kk.length < 500000000) (t : Bool) (ht : t = decide (aa.fI kk)) : aC Tryz.prog 114 [.string (strOfNums kk)] [] (aG fun v G => v = .bool t ∧ G = []) := by
 refine au [(0, _)] Tryz.func114 rfl Tryz.ntmps114 rfl rfl ?_
 intro w0 F
 refine (QI) ?_
 rcases (Classical.em (aa.cY kk)) with hnm | hnm
 ·refine (Q4) ?_
  refine aj (lT kk hk (by omega) true (decide_eq_true hnm).symm) V.uC  rfl .nil rfl ?_
  rintro _ _ ⟨rfl, rfl⟩
  refine (Qk) ?_
  refine oV (AX 0 Tryz.underlying9 rfl rfl (aa.bo hk) rfl (by have := aa.zQ hnm; omega))<|(Q1) ?_
  (rw [show decide (kk.getD 0 0 ≤ 90) = t from (aa.RH ht hnm).symm]; exact ag (G := []) (aw rfl) ⟨rfl, rfl⟩ (sub .nil ao))
 ·refine (Q4) ?_
  refine aj (lT kk hk (by omega) false (decide_eq_false hnm).symm) V.uC  rfl .nil rfl ?_
  rintro _ _ ⟨rfl, rfl⟩
  refine (Qn) ?_
  (obtain rfl : t = false := aa.OB ht hnm; exact ag (G := []) (aw rfl) ⟨rfl, rfl⟩ (sub .nil ao))
set_option maxHeartbeats 1000000 in
theorem Kd (b : Nat) (pl tr id_ ov : Bool) : aC Tryz.prog 113 [.pointer (some ⟨b, 0, none⟩), .pointer (some ⟨b, 0, none⟩)] [ai b 137 [.bool pl, .bool tr, .bool id_, .bool ov]] (aG fun v G => v = .bool (!pl && !id_) ∧ G = [ai b 137 [.bool true, .bool tr, .bool id_, .bool ov]]) := by
 refine au [(0, _), (1, _)] Tryz.func113 rfl Tryz.ntmps113 rfl rfl ?_
 intro w0 F
 refine (QI) ?_
 rcases ((by cases pl; exact .inl rfl; exact .inr rfl : pl = false ∨ pl = true)) with rfl | rfl
 ·refine (Q5)<|(nJ)<|(QZ)<|(nJ)<|(Q0) ?_
  refine oV (lG rfl)<|(Qj)<|(zv)<|(Qn) ?_
  exact ag (aw rfl) ⟨rfl, rfl⟩ (sub (aq .nil) ao)
 ·refine (Q5)<|(nJ)<|(QK)<|(zv)<|(Qn) ?_
  exact ag (aw rfl) ⟨rfl, rfl⟩ (sub (aq .nil) ao)
set_option maxHeartbeats 1000000 in
theorem Ks (b : Nat) (pl tr id_ ov : Bool) : aC Tryz.prog 113 [.pointer (some ⟨b, 0, none⟩), .pointer (some ⟨b, 1, none⟩)] [ai b 137 [.bool pl, .bool tr, .bool id_, .bool ov]] (aG fun v G => v = .bool (!tr && !id_) ∧ G = [ai b 137 [.bool pl, .bool true, .bool id_, .bool ov]]) := by
 refine au [(0, _), (1, _)] Tryz.func113 rfl Tryz.ntmps113 rfl rfl ?_
 intro w0 F
 refine (QI) ?_
 rcases ((by cases tr; exact .inl rfl; exact .inr rfl : tr = false ∨ tr = true)) with rfl | rfl
 ·refine (Q5)<|(nJ)<|(QZ)<|(nJ)<|(Q0) ?_
  refine oV (lG rfl)<|(Qj)<|(zv)<|(Qn) ?_
  exact ag (aw rfl) ⟨rfl, rfl⟩ (sub (aq .nil) ao)
 ·refine (Q5)<|(nJ)<|(QK)<|(zv)<|(Qn) ?_
  exact ag (aw rfl) ⟨rfl, rfl⟩ (sub (aq .nil) ao)
set_option maxHeartbeats 4000000 in
theorem OL (b : Nat) (pl tr id_ ov : Bool) (x : Ce) (hxk : af.ak x.k) (hxl : x.k.length < 500000000) : aC Tryz.prog 80 [.pointer (some ⟨b, 0, none⟩), .agg #[.string (strOfNums x.k), .slice x.p x.d.length x.c]] [ai b 137 [.bool pl, .bool tr, .bool id_, .bool ov]] (aG fun v G => v = .bool (aa.bS ⟨pl, tr, id_, ov⟩ x.ch).2 ∧ G = [ai b 137 [.bool (aa.bS ⟨pl, tr, id_, ov⟩ x.ch).1.plte, .bool (aa.bS ⟨pl, tr, id_, ov⟩ x.ch).1.trns, .bool (aa.bS ⟨pl, tr, id_, ov⟩ x.ch).1.bW, .bool (aa.bS ⟨pl, tr, id_, ov⟩ x.ch).1.ka]]) := by
 refine au [(0, _), (1, _)] Tryz.func80 rfl Tryz.ntmps80 rfl rfl ?_
 intro w0 F
 refine (Qr) ?_
 refine iL rfl (cs := [_, _]) rfl rfl ?_
 intro b3
 refine (Qe) ?_
 rcases (aa.T1 x.k tr) with h1 | ⟨h1, h2, rfl⟩ | ⟨h1, h2, rfl⟩ | ⟨h1, h2, h3⟩ | ⟨h1, h2, h3, h4⟩ | ⟨h1, h2, h3, h4, h5⟩ | ⟨h1, h2, h3, h4, h5⟩
 ·refine (Q5)<|(nO) ?_
  refine oV (je (aa.bo hxk) (aa.bo aa.qR) rfl (show an _ _ = some (.string (strOfNums aa.ba)) by unfold aa.ba; rfl) (decide_eq_true h1).symm)<|(Qj)<|(vH)<|(Qc)<|(rI) ?_
  refine oV (lG rfl)<|(Q3) ?_
  exact ag (aw rfl) (by rw [show (aa.bS ⟨pl, tr, id_, ov⟩ x.ch) = _ from aa.X0 h1]; exact ⟨rfl, rfl⟩) (sub (.cons ay .nil) bC)
 ·refine (Q5)<|(nO)<|(Am)<|(Qs)<|(rI)<|(Q7)<|(vH)<|(Q1)<|(rG)<|(UP)<|(Qn)<|(rI)<|(QP) ?_
  (exact ag (G := [ai b 137 [.bool pl, .bool true, .bool id_, .bool id_]]) (aw rfl) (by rw [show (aa.bS ⟨pl, true, id_, ov⟩ x.ch) = _ from aa.Tv h1 h2]; exact ⟨rfl, rfl⟩) (sub (.cons ay .nil) bC))
 ·refine (Q5)<|(nO)<|(Am)<|(Qs)<|(rI)<|(Q7)<|(vH)<|(Q1)<|(rG)<|(UP)<|(Qn)<|(rI)<|(Q1)<|(Q0) ?_
  refine aj (Kd b pl false id_ id_) V.RV  rfl (.cons ay .nil) rfl ?_
  rintro _ _ ⟨rfl, rfl⟩
  refine (Qc) ?_
  (exact ag (G := [ai b 137 [.bool true, .bool false, .bool id_, .bool id_]]) (aw rfl) (by rw [show (aa.bS ⟨pl, false, id_, ov⟩ x.ch) = _ from aa.Uv h1 h2]; exact ⟨rfl, rfl⟩) (sub (aq .nil) bC))
 ·refine (Q5)<|(nO)<|(Am)<|(Qs)<|(rI)<|(Q7)<|(vH)<|(Q1)<|(rG)<|(Ir)<|(Q1) ?_
  refine oV (je (aa.bo hxk) (aa.bo aa.qB) rfl (show an _ _ = some (.string (strOfNums aa.aS)) by unfold aa.aS; rfl) (decide_eq_true h3).symm)<|(Qi) ?_
  refine aj (Ks b pl tr id_ id_) V.RV  rfl (.cons ay .nil) rfl ?_
  rintro _ _ ⟨rfl, rfl⟩
  refine (Q1) ?_
  exact ag (aw rfl) (by rw [show (aa.bS ⟨pl, tr, id_, ov⟩ x.ch) = _ from aa.XD h1 h2 h3]; exact ⟨rfl, rfl⟩) (sub (aq .nil) bC)
 ·refine (Q5)<|(nO)<|(Am)<|(Qs)<|(rI)<|(Q7)<|(vH)<|(Q1)<|(rG)<|(Ir)<|(Q1)<|(P0)<|(Qi)<|(nO) ?_
  refine aj (lT x.k hxk (by omega) false (decide_eq_false h4).symm) V.uC  rfl .nil rfl ?_
  rintro _ _ ⟨rfl, rfl⟩
  refine (Qi) ?_
  (exact ag (G := [ai b 137 [.bool pl, .bool tr, .bool id_, .bool id_]]) (aw rfl) (by rw [show (aa.bS ⟨pl, tr, id_, ov⟩ x.ch) = _ from aa.GQ (r := false) h1 h2 h3 (aa.XG h4)]; exact ⟨rfl, rfl⟩) (sub (.cons ay .nil) bC))
 ·refine (Q5)<|(nO)<|(Am)<|(Qs)<|(rI)<|(Q7)<|(vH)<|(Q1)<|(rG)<|(Ir)<|(Q1)<|(P0)<|(Qi)<|(nO)<|(VH) ?_
  rintro _ _ ⟨rfl, rfl⟩
  refine (Qk)<|(nO)<|(Q0) ?_
  refine aj (D3 x.k hxk (by omega) true (decide_eq_true h5).symm) V.OU  rfl .nil rfl ?_
  rintro _ _ ⟨rfl, rfl⟩
  refine (Q1) ?_
  (exact ag (G := [ai b 137 [.bool pl, .bool tr, .bool id_, .bool id_]]) (aw rfl) (by rw [show (aa.bS ⟨pl, tr, id_, ov⟩ x.ch) = _ from aa.GQ (r := false) h1 h2 h3 (aa.Xm h5)]; exact ⟨rfl, rfl⟩) (sub (.cons ay .nil) bC))
 ·refine (Q5)<|(nO)<|(Am)<|(Qs)<|(rI)<|(Q7)<|(vH)<|(Q1)<|(rG)<|(Ir)<|(Q1)<|(P0)<|(Qi)<|(nO)<|(VH) ?_
  rintro _ _ ⟨rfl, rfl⟩
  refine (Qk)<|(nO)<|(Q0) ?_
  refine aj (D3 x.k hxk (by omega) false (decide_eq_false h5).symm) V.OU  rfl .nil rfl ?_
  rintro _ _ ⟨rfl, rfl⟩
  refine (Q1) ?_
  (exact ag (G := [ai b 137 [.bool pl, .bool tr, .bool id_, .bool id_]]) (aw rfl) (by rw [show (aa.bS ⟨pl, tr, id_, ov⟩ x.ch) = _ from aa.GQ (r := true) h1 h2 h3 (aa.X4 h4 h5)]; exact ⟨rfl, rfl⟩) (sub (.cons ay .nil) bC))
end Go.Proofs.YtmaiakpjgomnpaaGreat
namespace Go.Proofs.YtmaiakpjgomnpaaGreat
open Go.Sl
theorem V.YE : aB Tryz.prog 80 = true := by kernel_rfl
theorem V.T0 : a7 Tryz.prog 88 1 = some 1 := by kernel_rfl
theorem V.Ti : ew Tryz.prog 137 = some [(0, 1), (1, 1), (2, 1), (3, 1)] := by kernel_rfl
theorem V.Xs : cm Tryz.prog 137 = some ([.bool false, .bool false, .bool false, .bool false]) := by kernel_rfl
end Go.Proofs.YtmaiakpjgomnpaaGreat
namespace Go.Proofs.YtmaiakpjgomnpaaGreat
open Go.Sl 
attribute [local irreducible] af.ak aa.fO aa.fK aa.dp aa.fq aa.eH aa.gA aa.ba aa.aN aa.aS aa.aY aa.bQ aa.fI aa.cY aa.cD aa.bS aa.walk aa.mid
theorem MO (es : List Ce) (i : Nat) : ((es.map Ce.ch).map aa.Ch.k).getD i [] = (CK.g es (i : Int)).k := by
 show _ = (es.getD i _).k
 simp only [List.getD_eq_getElem?_getD, List.getElem?_map]
 cases es[i]? <;> rfl
theorem SA (es : List Ce) (i : Nat) : ((es.map Ce.ch).map (·.d.length)).getD i 0 = (CK.g es (i : Int)).d.length := by
 show _ = (es.getD i _).d.length
 simp only [List.getD_eq_getElem?_getD, List.getElem?_map]
 cases es[i]? <;> rfl
theorem OP {es : List Ce} {i : Nat} (h : i < es.length - 2) : (aa.mid (es.map Ce.ch))[i]? = some (CK.g ((es.drop 1).take (es.length - 1 - 1)) (i : Int)).ch := by
 rw [aa.Lj (by rw [List.length_map]; exact h), List.getElem?_map]
 have e : CK.g ((es.drop 1).take (es.length - 1 - 1)) (i : Int) = es[1 + i]'(by omega) := by
  show ((es.drop 1).take (es.length - 1 - 1)).getD i _ = _
  rw [List.getD_eq_getElem?_getD, List.getElem?_take_of_lt (by omega), List.getElem?_drop, List.getElem?_eq_getElem (by omega)]
  rfl
 rw [e, List.getElem?_eq_getElem (by omega)]
 rfl
theorem kx {es : List Ce} {i : Nat} (P : Ce → Prop) (h : ∀ x ∈ es, P x) (hi : i < es.length) : P (CK.g es (i : Int)) := by
 have : CK.g es (i : Int) = es[i] := CK.wv hi
 rw [this]
 exact h _ (List.getElem_mem hi)
def JR (es : List Ce) : Prop := ∀ x ∈ es, af.ak x.k ∧ x.k.length < 500000000
set_option maxHeartbeats 8000000 in
theorem L7 (p : Option Addr) (c : Nat) (es : List Ce) (R : ab) (hR : ∀ w0 h, R w0 h → aE CK p es.length es w0 h) (hel : es.length ≤ 262144) (hok : JR es) (hcap : es.length ≤ c) : aC Tryz.prog 38 [.slice p es.length c] [R] (aG fun v G => v = .int .i64 (aa.F6 (es.map Ce.ch)) ∧ G = [R]) := by
 refine au [(0, _)] Tryz.func38 rfl Tryz.ntmps38 rfl rfl ?_
 intro w0 F
 have h6 := aa.X5 (es.map Ce.ch)
 rw [List.length_map, MO, SA, MO, SA, show (((0 : Nat) : Int)) = 0 from rfl] at h6
 refine (QI) ?_
 rcases (h6) with ⟨h3, ho⟩ | ⟨h3, hk0, ho⟩ | ⟨h3, hk0, hd0, ho⟩ | ⟨h3, hk0, hd0, hkn, ho⟩ | ⟨h3, hk0, hd0, hkn, hdn, ho⟩ | ⟨h3, hk0, hd0, hkn, hdn, ho⟩
 ·refine (DV)<|(QO) ?_
  refine rO TT 42 rfl ?_
  rw [← aa.k8 ho]
  exact ag (aw rfl) ⟨rfl, rfl⟩ (sub (aq .nil) ao)
 ·refine (Q5)<|(Er)<|(Q3) ?_
  have hb0 : af.ak (CK.g es 0).k := (kx (i := 0) (fun x => af.ak x.k ∧ x.k.length < 500000000) hok (by omega)).1
  have hbn := (kx (i := (es.length - 1)) (fun x => af.ak x.k ∧ x.k.length < 500000000) hok (by omega)).1
  refine (Qa) ?_
  refine (QM) ?_
  refine (Q7) ?_
  refine (Q0) ?_
  refine (l9) ?_
  refine (Q0) ?_
  refine (vB) ?_
  refine (Q0) ?_
  refine (vY) ?_
  refine (Q0) ?_
  refine oV (de (v := .bool true) (mz (r := false) (sK (aa.bo hb0) (aa.bo aa.KC) hk0) rfl (show an _ _ = some (.string (strOfNums aa.bQ)) by unfold aa.bQ; rfl)) rfl) ?_
  refine rO TT 36 rfl ?_
  rw [← aa.k8 ho]
  exact ag (aw rfl) ⟨rfl, rfl⟩ (sub (aq .nil) ao)
 ·refine (Q5)<|(Er)<|(Q3) ?_
  have hb0 : af.ak (CK.g es 0).k := (kx (i := 0) (fun x => af.ak x.k ∧ x.k.length < 500000000) hok (by omega)).1
  have hbn := (kx (i := (es.length - 1)) (fun x => af.ak x.k ∧ x.k.length < 500000000) hok (by omega)).1
  refine (Qa) ?_
  refine (QM) ?_
  refine (Q7) ?_
  refine (Q0) ?_
  refine (l9) ?_
  refine (Q0) ?_
  refine (vB) ?_
  refine (Q0) ?_
  refine (vY) ?_
  refine (Q0) ?_
  refine (Iu) ?_
  refine (Qe) ?_
  refine (Q0) ?_
  refine (l9) ?_
  refine (Q0) ?_
  refine (pe) ?_
  refine (Q0) ?_
  refine (Aq) ?_
  refine (Q0) ?_
  refine (oN) ?_
  refine (Q0) ?_
  refine oV (cJ (cE rfl rfl) (fun hh => hd0 (by omega))) ?_
  refine rO TT 28 rfl ?_
  rw [← aa.k8 ho]
  exact ag (aw rfl) ⟨rfl, rfl⟩ (sub (aq .nil) ao)
 ·refine (Q5)<|(Er)<|(Q3) ?_
  have hb0 : af.ak (CK.g es 0).k := (kx (i := 0) (fun x => af.ak x.k ∧ x.k.length < 500000000) hok (by omega)).1
  have hbn := (kx (i := (es.length - 1)) (fun x => af.ak x.k ∧ x.k.length < 500000000) hok (by omega)).1
  refine (Qa) ?_
  refine (QM) ?_
  refine (Q7) ?_
  refine (Q0) ?_
  refine (l9) ?_
  refine (Q0) ?_
  refine (vB) ?_
  refine (Q0) ?_
  refine (vY) ?_
  refine (Q0) ?_
  refine (Iu) ?_
  refine (Qe) ?_
  refine (Q0) ?_
  refine (l9) ?_
  refine (Q0) ?_
  refine (pe) ?_
  refine (Q0) ?_
  refine (Aq) ?_
  refine (Q0) ?_
  refine (oN) ?_
  refine (Q0) ?_
  refine (IB) ?_
  refine (Q8) ?_
  refine (Q0) ?_
  refine (l9) ?_
  refine (Q0) ?_
  refine (vB) ?_
  refine (Q0) ?_
  refine (vY) ?_
  refine (Q0) ?_
  refine oV (de (v := .bool true) (mz (r := false) (sK (aa.bo hbn) (aa.bo aa.yI) hkn) rfl (show an _ _ = some (.string (strOfNums aa.aY)) by unfold aa.aY; rfl)) rfl) ?_
  refine rO TT 20 rfl ?_
  rw [← aa.k8 ho]
  exact ag (aw rfl) ⟨rfl, rfl⟩ (sub (aq .nil) ao)
 ·refine (Q5)<|(Er)<|(Q3) ?_
  have hb0 : af.ak (CK.g es 0).k := (kx (i := 0) (fun x => af.ak x.k ∧ x.k.length < 500000000) hok (by omega)).1
  have hbn := (kx (i := (es.length - 1)) (fun x => af.ak x.k ∧ x.k.length < 500000000) hok (by omega)).1
  refine (Qa) ?_
  refine (QM) ?_
  refine (Q7) ?_
  refine (Q0) ?_
  refine (l9) ?_
  refine (Q0) ?_
  refine (vB) ?_
  refine (Q0) ?_
  refine (vY) ?_
  refine (Q0) ?_
  refine (Iu) ?_
  refine (Qe) ?_
  refine (Q0) ?_
  refine (l9) ?_
  refine (Q0) ?_
  refine (pe) ?_
  refine (Q0) ?_
  refine (Aq) ?_
  refine (Q0) ?_
  refine (oN) ?_
  refine (Q0) ?_
  refine (IB) ?_
  refine (Q8) ?_
  refine (Q0) ?_
  refine (l9) ?_
  refine (Q0) ?_
  refine (vB) ?_
  refine (Q0) ?_
  refine (vY) ?_
  refine (Q0) ?_
  refine (V9) ?_
  refine (Q8) ?_
  refine (Q0) ?_
  refine (l9) ?_
  refine (Q0) ?_
  refine (pe) ?_
  refine (Q0) ?_
  refine (Aq) ?_
  refine (Q0) ?_
  refine (oN) ?_
  refine (Q0) ?_
  refine (Qt) ?_
  refine (Qs) ?_
  rw [← aa.k8 ho]
  exact ag (aw rfl) ⟨rfl, rfl⟩ (sub (aq .nil) ao)
 ·refine (Q5)<|(Er)<|(Q3) ?_
  have hb0 : af.ak (CK.g es 0).k := (kx (i := 0) (fun x => af.ak x.k ∧ x.k.length < 500000000) hok (by omega)).1
  have hbn := (kx (i := (es.length - 1)) (fun x => af.ak x.k ∧ x.k.length < 500000000) hok (by omega)).1
  refine (Qa) ?_
  refine (QM) ?_
  refine (Q7) ?_
  refine (Q0) ?_
  refine (l9) ?_
  refine (Q0) ?_
  refine (vB) ?_
  refine (Q0) ?_
  refine (vY) ?_
  refine (Q0) ?_
  refine (Iu) ?_
  refine (Qe) ?_
  refine (Q0) ?_
  refine (l9) ?_
  refine (Q0) ?_
  refine (pe) ?_
  refine (Q0) ?_
  refine (Aq) ?_
  refine (Q0) ?_
  refine (oN) ?_
  refine (Q0) ?_
  refine (IB) ?_
  refine (Q8) ?_
  refine (Q0) ?_
  refine (l9) ?_
  refine (Q0) ?_
  refine (vB) ?_
  refine (Q0) ?_
  refine (vY) ?_
  refine (Q0) ?_
  refine (V9) ?_
  refine (Q8) ?_
  refine (Q0) ?_
  refine (l9) ?_
  refine (Q0) ?_
  refine (pe) ?_
  refine (Q0) ?_
  refine (Aq) ?_
  refine (Q0) ?_
  refine (oN) ?_
  refine (Q0) ?_
  refine (Qq) ?_
  refine (Qj) ?_
  refine oV (c5 V.Ti V.Xs rfl (cs := [_, _, _, _]) rfl) ?_
  refine iL rfl (cs := [.bool false, .bool false, .bool false, .bool false]) rfl rfl ?_
  intro b45
  refine (Q3) ?_
  have hM : ∀ w0 h, R w0 h → aE CK (dm p 1 c 2) ((es.length - 1) - 1) ((es.drop 1).take ((es.length - 1) - 1)) w0 h := fun w0 h hh => (hR w0 h hh).sub 1 (es.length - 1) c (by omega) (by omega) (by omega)
  refine (Q4) ?_
  refine oV (dY 1 (es.length - 1) c V.rQ rfl ⟨_, rfl⟩ ⟨_, rfl⟩ rfl (by omega) (by omega) (by omega))<|(Q3) ?_
  refine gl (fun (i : Nat) (w : aa.Wk) => [(4, .pointer (some ⟨b45, 0, none⟩)), (48, .slice (dm p 1 c 2) ((es.length - 1) - 1) (c - 1)), (49, .int .i64 (((es.length - 1) - 1 : Nat) : Int)), (50, .int .i64 (i : Int))]) (fun (i : Nat) (w : aa.Wk) => ai b45 137 [.bool w.plte, .bool w.trns, .bool w.bW, .bool w.ka] :: R :: F) (fun (i : Nat) (w : aa.Wk) => i ≤ es.length - 2 ∧ aa.walk ((aa.mid (es.map Ce.ch)).drop i) w = aa.walk (aa.mid (es.map Ce.ch)) aa.yF) (fun (i : Nat) (w : aa.Wk) => es.length - 2 - i) (i2 (0) (aa.yF) ?_ (eQ ln) (sub (aT .nil) ao)) ?_
  ·exact ⟨Nat.zero_le _, rfl⟩
  intro i w
  rintro ⟨hi, hwk⟩
  refine (Qm) ?_
  refine aF rfl (fun h51 => ?_) (fun h51 => ?_)
  ·refine (Qg) ?_
   have hmi := OP (es := es) (i := i) (by omega)
   have hxo : af.ak (CK.g ((es.drop 1).take ((es.length - 1) - 1)) (i : Int)).k ∧ (CK.g ((es.drop 1).take ((es.length - 1) - 1)) (i : Int)).k.length < 500000000 := kx (fun x => af.ak x.k ∧ x.k.length < 500000000) (fun x hx => hok x (List.mem_of_mem_drop (List.mem_of_mem_take hx))) (by rw [List.length_take, List.length_drop]; omega)
   have hwn := aa.Na (w := w) _ hmi
   refine (Qo) ?_
   refine oV (xI V.rQ (by exact bG hM dM))<|oV (nt (c := (CK)) V.oF rfl (by exact bG hM dM) (by omega) (by omega) rfl)<|(yr) ?_
   intro b6
   refine (rB)<|(Q7) ?_
   rcases (aa.RQ (aa.bS ⟨w.plte, w.trns, w.bW, w.ka⟩ (CK.g ((es.drop 1).take ((es.length - 1) - 1)) (i : Int)).ch).2) with hb | hb
   ·refine (Q4)<|(Ew)<|(UN) ?_
    rintro _ _ ⟨rfl, rfl⟩
    rw [hb]
    refine (Af) ?_
    have hb2 : (aa.bS w (CK.g ((es.drop 1).take ((es.length - 1) - 1)) (i : Int)).ch).2 = true := hb
    rw [hb2] at hwn
    exact j2 (i + 1) (aa.bS ⟨w.plte, w.trns, w.bW, w.ka⟩ (CK.g ((es.drop 1).take ((es.length - 1) - 1)) (i : Int)).ch).1 ⟨⟨by omega, hwn.symm.trans hwk⟩, by omega⟩ (eQ ln) (sub (aq (.cons ay .nil)) bC)
   ·refine (Q4)<|(Ew)<|(UN) ?_
    rintro _ _ ⟨rfl, rfl⟩
    rw [hb]
    refine (QK) ?_
    have hb2 : (aa.bS w (CK.g ((es.drop 1).take ((es.length - 1) - 1)) (i : Int)).ch).2 = false := hb
    rw [hb2] at hwn
    rw [← aa.k8 (aa.Rt ho (hwk.symm.trans hwn))]
    exact ag (aw rfl) ⟨rfl, rfl⟩ (sub (.cons bj .nil) fS)
  ·refine (Qg) ?_
   rcases (aa.RQ w.bW) with hb | hb
   ·refine (Qa) ?_
    rw [aa.D8 (by rw [aa.Ae (by rw [List.length_map]; omega), List.length_map]; omega)] at hwk
    refine (Q5)<|(nJ) ?_
    rw [hb]
    refine (QL) ?_
    rw [← aa.oX ((aa.FJ ho hwk.symm).trans hb)]
    exact ag (aw rfl) ⟨rfl, rfl⟩ (sub (.cons ay .nil) bC)
   ·refine (Qa) ?_
    rw [aa.D8 (by rw [aa.Ae (by rw [List.length_map]; omega), List.length_map]; omega)] at hwk
    refine (Q5)<|(nJ) ?_
    rw [hb]
    refine (Qs) ?_
    rw [← aa.k8 ((aa.FJ ho hwk.symm).trans hb)]
    exact ag (aw rfl) ⟨rfl, rfl⟩ (sub (.cons ay .nil) bC)
end Go.Proofs.YtmaiakpjgomnpaaGreat
namespace Go.Proofs.YtmaiakpjgomnpaaGreat
open Go.Sl
theorem V.Yx : aB Tryz.prog 64 = true := by kernel_rfl
theorem V.Zh : aB Tryz.prog 65 = true := by kernel_rfl
theorem V.Zr : aB Tryz.prog 66 = true := by kernel_rfl
theorem V.Hr : ew Tryz.prog 57 = some [(0, 1), (1, 1)] := by kernel_rfl
theorem V.n5 : sliceB Tryz.prog 59 = some (57, 2, 40) := by kernel_rfl
theorem V.E3 : cm Tryz.prog 57 = some ([.string .empty, .slice none 0 0]) := by kernel_rfl
end Go.Proofs.YtmaiakpjgomnpaaGreat
namespace Go.Proofs.YtmaiakpjgomnpaaGreat
open Go.Sl 
attribute [local irreducible] af.ak aa.fO aa.fK aa.dp aa.fq aa.eH aa.gA aa.gj aa.first aa.cut aa.fx aa.ee aa.aY aa.cY aa.mJ
abbrev aQ : Ec Ce := ⟨57, 2, fun x => [.string (strOfNums x.k), .slice x.p x.d.length x.c], ⟨[], none, 0, []⟩, fun _ => rfl, fun _ => rfl⟩
set_option maxHeartbeats 1000000 in
theorem Ea (kk : List Int) (hk : af.ak kk) (hkl : kk.length < 500000000) (t : Bool) (ht : t = decide (aa.cY kk)) : aC Tryz.prog 65 [.string (strOfNums kk)] [] (aG fun v G => v = .bool t ∧ G = []) := by
 refine au [(0, _)] Tryz.func65 rfl Tryz.ntmps65 rfl rfl ?_
 intro w0 F
 refine (QI) ?_
 rcases (Classical.em (kk.length = 4)) with h4 | h4
 ·refine (Q5)<|(JU)<|(IB)<|(QL) ?_
  refine cB (fun (i : Nat) => [(0, .string (strOfNums kk)), (3, .int .i64 (i : Int))]) (fun (i : Nat) => F) (fun (i : Nat) => i ≤ 4 ∧ ∀ j, j < i → aa.jL (kk.getD j 0)) (fun (i : Nat) => 4 - i) (i1 (0) ?_ (jg ln) (sub .nil ao)) ?_
  ·exact ⟨Nat.zero_le _, fun j hj => by omega⟩
  intro i
  rintro ⟨hi, hall⟩
  refine rL TT 7 rfl ?_
  refine aF rfl (fun h9 => ?_) (fun h9 => ?_)
  ·refine rC TT 8 rfl<|(OQ) ?_
   refine oV (ow (r := (aa.mJ (kk.getD i 0))) rfl rfl (by unfold aa.mJ; rfl))<|(Qe) ?_
   rcases (aa.o3 (hk.get i)) with ⟨h1, hn⟩ | ⟨h1, h2, hn⟩ | ⟨h1, h2, hl1⟩
   ·refine (Q4)<|(QO) ?_
    refine rO TT 18 rfl ?_
    obtain rfl : t = false := ht.trans (decide_eq_false (aa.va hn (by omega)))
    exact ag (aw rfl) ⟨rfl, rfl⟩ (sub .nil ao)
   ·refine (Q4) ?_
    refine (QM) ?_
    refine (Q7) ?_
    refine (Q0) ?_
    refine (Qt) ?_
    refine (QK) ?_
    obtain rfl : t = false := ht.trans (decide_eq_false (aa.va hn (by omega)))
    exact ag (aw rfl) ⟨rfl, rfl⟩ (sub .nil ao)
   ·refine (Q4) ?_
    refine (QM) ?_
    refine (Q7) ?_
    refine (Q0) ?_
    refine (Qq) ?_
    refine (Ah) ?_
    refine j1 (i + 1) ?_ (jg ln) (sub .nil ao)
    exact ⟨⟨by omega, fun j hj => (Nat.lt_succ_iff_lt_or_eq.1 hj).elim (hall j) (fun e => e ▸ hl1)⟩, by omega⟩
  ·refine (nS) ?_
   obtain rfl : i = 4 := by omega
   obtain rfl : t = true := ht.trans (decide_eq_true ((aa.AE (by rw [h4]; exact hall)).2 h4))
   exact ag (aw rfl) ⟨rfl, rfl⟩ (sub .nil ao)
 ·refine (Q5)<|(JU) ?_
  refine oV (cJ (cE rfl rfl) (fun hh => h4 (by omega)))<|(Qi) ?_
  obtain rfl : t = false := ht.trans (decide_eq_false (aa.Tj h4))
  exact ag (aw rfl) ⟨rfl, rfl⟩ (sub .nil ao)
theorem Sq  : aC Tryz.prog 64 [] [] (aG fun v G => v = .string (strOfNums aa.ee) ∧ G = []) := by
 refine au [] Tryz.func64 rfl Tryz.ntmps64 rfl rfl ?_
 intro w0 F
 exact rT TT 11 rfl<|ag (aw (show _ = some (.string (strOfNums aa.ee)) by unfold aa.ee; rfl)) ⟨rfl, rfl⟩ (sub .nil ao)
end Go.Proofs.YtmaiakpjgomnpaaGreat
namespace Go.Proofs.YtmaiakpjgomnpaaGreat
open Go.Sl
theorem V.s8 : a7 Tryz.prog 57 0 = some 0 := by kernel_rfl
theorem V.wu : a7 Tryz.prog 57 1 = some 1 := by kernel_rfl
end Go.Proofs.YtmaiakpjgomnpaaGreat
namespace Go.Proofs.YtmaiakpjgomnpaaGreat
open Go.Sl 
attribute [local irreducible] af.ak aa.fO aa.fK aa.dp aa.fq aa.eH aa.gA aa.ba aa.aN aa.aS aa.aY aa.bQ aa.cY aa.cD aa.du aa.kD aa.sk
theorem pg {es : List Ce} {i : Nat} (h : i < es.length) : (es.map Ce.ch)[i]? = some (aQ.g es (i : Int)).ch := by
 rw [List.getElem?_map, List.getElem?_eq_getElem h]
 have : aQ.g es (i : Int) = es[i] := aQ.wv h
 rw [this]; rfl
theorem mv {es : List Ce} {i : Nat} (P : Ce → Prop) (h : ∀ x ∈ es, P x) (hi : i < es.length) : P (aQ.g es (i : Int)) := by
 have : aQ.g es (i : Int) = es[i] := aQ.wv hi
 rw [this]
 exact h _ (List.getElem_mem hi)
end Go.Proofs.YtmaiakpjgomnpaaGreat
namespace Go.Proofs.YtmaiakpjgomnpaaGreat
open Go.Sl
theorem V.a145 : gf Tryz.prog 145 = some 6 := by kernel_rfl
theorem V.O3 : gf Tryz.prog 181 = some 42 := by kernel_rfl
theorem V.gn : gf Tryz.prog 26 = some 3 := by kernel_rfl
theorem V.I0 : gq Tryz.prog 181 = some (7, 145, 6) := by kernel_rfl
theorem V.pB : aB Tryz.prog 115 = true := by kernel_rfl
theorem V.Mx : aB Tryz.prog 144 = true := by kernel_rfl
theorem V.vr : aB Tryz.prog 58 = true := by kernel_rfl
theorem V.H4 : aB Tryz.prog 60 = true := by kernel_rfl
theorem V.NL : a7 Tryz.prog 145 4 = some 4 := by kernel_rfl
theorem V.P9 : a7 Tryz.prog 145 5 = some 5 := by kernel_rfl
theorem V.IX : a7 Tryz.prog 26 0 = some 0 := by kernel_rfl
theorem V.tq : a7 Tryz.prog 26 1 = some 1 := by kernel_rfl
theorem V.sG : a7 Tryz.prog 26 2 = some 2 := by kernel_rfl
theorem V.T6 : ew Tryz.prog 145 = some [(0, 1), (1, 1), (2, 1), (3, 1), (4, 1), (5, 1)] := by kernel_rfl
theorem V.uh : ew Tryz.prog 26 = some [(0, 1), (1, 1), (2, 1)] := by kernel_rfl
theorem V.rz : bP Tryz.prog 24 = true := by kernel_rfl
theorem V.tN : sliceB Tryz.prog 140 = some (145, 6, 48) := by kernel_rfl
theorem V.ga : sliceB Tryz.prog 24 = some (62, 1, 2) := by kernel_rfl
theorem V.z145 : cm Tryz.prog 145 = some ([.int .i64 0, .int .i64 0, .int .i64 0, .int .i64 0, .int .i64 0, .int .i64 0]) := by kernel_rfl
theorem V.PN : cm Tryz.prog 181 = some (List.replicate 42 (.int .i64 0)) := by kernel_rfl
theorem V.vV : cm Tryz.prog 26 = some ([.int .i64 0, .int .i64 0, .slice none 0 0]) := by kernel_rfl
theorem V.EZ : cm Tryz.prog 62 = some ([.int .u16 0]) := by kernel_rfl
end Go.Proofs.YtmaiakpjgomnpaaGreat
namespace Go.Proofs.YtmaiakpjgomnpaaGreat
open Go.Sl 
attribute [local irreducible] aa.aW aa.many aa.dv aa.eY aa.sH aa.pJ aa.hI aa.iw
section
variable {C : Ctx} {E : Env} {L : List ab}
theorem Tq {t T n b T' : Nat} {cs : List Value} (hs : gf C.P T = some n) (h1 : E.get t = some (.pointer (some ⟨b, 0, none⟩))) (hm : ai b T' cs ∈ L) (hn : cs.length = n) : ks C #[.cell t T] E L (.agg cs.toArray) := fun fn a w hr ha hi => by
 obtain ⟨g1, g2⟩ := kI hs w
 obtain ⟨F, hF⟩ := hi.mem hm
 have := run_loadCells_list (P := C.P) w ⟨b, 0, none⟩ cs (fun j v hj => by rw [Addr.fa, hF.ie, ← hj]; simp)
 rw [hn] at this
 simp [results, hr, ha.get _ _ h1, asAddr, loadVar, g1, g2, this]
end
set_option maxHeartbeats 1000000 in
theorem mg (w h : Int) : aC Tryz.prog 58 [.int .i64 w, .int .i64 h] [] (aG fun v G => v = .int .i64 (aa.aW w h) ∧ G = []) := by
 refine au [(0, _), (1, _)] Tryz.func58 rfl Tryz.ntmps58 rfl rfl ?_
 intro w0 F
 refine rT TT 7 rfl ?_
 rcases (aa.BP w h) with ⟨a0, hs⟩ | ⟨a0, a1, hs⟩ | ⟨a0, a1, a2, hs⟩ | ⟨a0, a1, a2, a3, hs⟩ | ⟨a0, a1, a2, a3, a4, hs⟩ | ⟨a0, a1, a2, a3, a4, hs⟩
 ·refine (Q4)<|(QO) ?_
  exact rO TT 16 rfl<|ag (aw rfl) ⟨congrArg (Value.int .i64) hs.symm, rfl⟩ (sub .nil ao)
 ·refine (Q4) ?_
  refine (QM) ?_
  refine (Q7) ?_
  refine (Q0) ?_
  refine (QO) ?_
  refine (Qu) ?_
  exact ag (aw rfl) ⟨congrArg (Value.int .i64) hs.symm, rfl⟩ (sub .nil ao)
 ·refine (Q4) ?_
  refine (QM) ?_
  refine (Q7) ?_
  refine (Q0) ?_
  refine (QM) ?_
  refine (Qj) ?_
  refine (Qt) ?_
  refine rO TT 22 rfl ?_
  exact ag (aw rfl) ⟨congrArg (Value.int .i64) hs.symm, rfl⟩ (sub .nil ao)
 ·refine (Q4) ?_
  refine (QM) ?_
  refine (Q7) ?_
  refine (Q0) ?_
  refine (QM) ?_
  refine (Qj) ?_
  refine (Qq) ?_
  refine (Q7) ?_
  refine (Q0) ?_
  refine (Qt) ?_
  refine rO TT 19 rfl ?_
  exact ag (aw rfl) ⟨congrArg (Value.int .i64) hs.symm, rfl⟩ (sub .nil ao)
 ·refine rC TT 3 rfl ?_
  refine oV (bR (dW rfl rfl) (by omega)) ?_
  refine rO TT 2 rfl ?_
  refine cL rfl ?_
  refine oV (bR (dW rfl rfl) (by omega)) ?_
  refine rO TT 8 rfl ?_
  refine oV (bR (ed rfl rfl) (by omega)) ?_
  refine rO TT 2 rfl ?_
  refine cL rfl ?_
  refine oV (bR (ed rfl rfl) (by omega)) ?_
  refine rO TT 4 rfl ?_
  refine cL rfl ?_
  refine oV (ji (r := 16384 / h) rfl rfl (by omega) (aa.pQ (by omega))) ?_
  refine cL rfl ?_
  refine oV (cJ (ed rfl rfl) (by omega)) ?_
  refine rO TT 13 rfl ?_
  exact ag (aw rfl) ⟨congrArg (Value.int .i64) hs.symm, rfl⟩ (sub .nil ao)
 ·refine rC TT 3 rfl ?_
  refine oV (bR (dW rfl rfl) (by omega)) ?_
  refine rO TT 2 rfl ?_
  refine cL rfl ?_
  refine oV (bR (dW rfl rfl) (by omega)) ?_
  refine rO TT 8 rfl ?_
  refine oV (bR (ed rfl rfl) (by omega)) ?_
  refine rO TT 2 rfl ?_
  refine cL rfl ?_
  refine oV (bR (ed rfl rfl) (by omega)) ?_
  refine rO TT 4 rfl ?_
  refine cL rfl ?_
  refine oV (ji (r := 16384 / h) rfl rfl (by omega) (aa.pQ (by omega))) ?_
  refine cL rfl ?_
  refine oV (bR (ed rfl rfl) (by omega)) ?_
  refine rO TT 14 rfl ?_
  exact ag (aw rfl) ⟨congrArg (Value.int .i64) hs.symm, rfl⟩ (sub .nil ao)
set_option maxHeartbeats 1000000 in
theorem sL (w h : Int) : aC Tryz.prog 60 [.int .i64 w, .int .i64 h] [] (aG fun v G => v = .int .i64 (aa.aW w h) ∧ G = []) := by
 refine au [(0, _), (1, _)] Tryz.func60 rfl Tryz.ntmps60 rfl rfl ?_
 intro w0 F
 refine rT TT 7 rfl ?_
 rcases (aa.BP w h) with ⟨a0, hs⟩ | ⟨a0, a1, hs⟩ | ⟨a0, a1, a2, hs⟩ | ⟨a0, a1, a2, a3, hs⟩ | ⟨a0, a1, a2, a3, a4, hs⟩ | ⟨a0, a1, a2, a3, a4, hs⟩
 ·refine (Q4)<|(QO) ?_
  exact rO TT 16 rfl<|ag (aw rfl) ⟨congrArg (Value.int .i64) hs.symm, rfl⟩ (sub .nil ao)
 ·refine (Q4) ?_
  refine (QM) ?_
  refine (Q7) ?_
  refine (Q0) ?_
  refine (QO) ?_
  refine (Qu) ?_
  exact ag (aw rfl) ⟨congrArg (Value.int .i64) hs.symm, rfl⟩ (sub .nil ao)
 ·refine (Q4) ?_
  refine (QM) ?_
  refine (Q7) ?_
  refine (Q0) ?_
  refine (QM) ?_
  refine (Qj) ?_
  refine (Qt) ?_
  refine rO TT 22 rfl ?_
  exact ag (aw rfl) ⟨congrArg (Value.int .i64) hs.symm, rfl⟩ (sub .nil ao)
 ·refine (Q4) ?_
  refine (QM) ?_
  refine (Q7) ?_
  refine (Q0) ?_
  refine (QM) ?_
  refine (Qj) ?_
  refine (Qq) ?_
  refine (Q7) ?_
  refine (Q0) ?_
  refine (Qt) ?_
  refine rO TT 19 rfl ?_
  exact ag (aw rfl) ⟨congrArg (Value.int .i64) hs.symm, rfl⟩ (sub .nil ao)
 ·refine rC TT 3 rfl ?_
  refine oV (bR (dW rfl rfl) (by omega)) ?_
  refine rO TT 2 rfl ?_
  refine cL rfl ?_
  refine oV (bR (dW rfl rfl) (by omega)) ?_
  refine rO TT 8 rfl ?_
  refine oV (bR (ed rfl rfl) (by omega)) ?_
  refine rO TT 2 rfl ?_
  refine cL rfl ?_
  refine oV (bR (ed rfl rfl) (by omega)) ?_
  refine rO TT 4 rfl ?_
  refine cL rfl ?_
  refine oV (ji (r := 16384 / h) rfl rfl (by omega) (aa.pQ (by omega))) ?_
  refine cL rfl ?_
  refine oV (cJ (ed rfl rfl) (by omega)) ?_
  refine rO TT 13 rfl ?_
  exact ag (aw rfl) ⟨congrArg (Value.int .i64) hs.symm, rfl⟩ (sub .nil ao)
 ·refine rC TT 3 rfl ?_
  refine oV (bR (dW rfl rfl) (by omega)) ?_
  refine rO TT 2 rfl ?_
  refine cL rfl ?_
  refine oV (bR (dW rfl rfl) (by omega)) ?_
  refine rO TT 8 rfl ?_
  refine oV (bR (ed rfl rfl) (by omega)) ?_
  refine rO TT 2 rfl ?_
  refine cL rfl ?_
  refine oV (bR (ed rfl rfl) (by omega)) ?_
  refine rO TT 4 rfl ?_
  refine cL rfl ?_
  refine oV (ji (r := 16384 / h) rfl rfl (by omega) (aa.pQ (by omega))) ?_
  refine cL rfl ?_
  refine oV (bR (ed rfl rfl) (by omega)) ?_
  refine rO TT 14 rfl ?_
  exact ag (aw rfl) ⟨congrArg (Value.int .i64) hs.symm, rfl⟩ (sub .nil ao)
set_option maxHeartbeats 1000000 in
theorem SV (w h : Int) : aC Tryz.prog 85 [.int .i64 w, .int .i64 h] [] (aG fun v G => (aa.aW w h ≠ 0 ∧ v = .tuple #[.agg #[.int .i64 0, .int .i64 0, .slice none 0 0], .int .i64 (aa.aW w h)] ∧ G = []) ∨ (aa.aW w h = 0 ∧ ∃ b, v = .tuple #[.agg #[.int .i64 w, .int .i64 h, .slice (some ⟨b, 0, none⟩) ((4 * w * h).toNat) ((4 * w * h).toNat)], .int .i64 0] ∧ G = [Row (aD 62 .u16) (some ⟨b, 0, none⟩) ((4 * w * h).toNat) ((4 * w * h).toNat) (List.replicate (4 * w * h).toNat (aD 62 .u16).d)])) := by
 refine au [(0, _), (1, _)] Tryz.func85 rfl Tryz.ntmps85 rfl rfl ?_
 intro w0 F
 refine (Qr)<|(tA) ?_
 intro b4
 refine rO TT 8 rfl ?_
 refine aj (mg w h) V.vr  rfl .nil rfl ?_
 rintro _ _ ⟨rfl, rfl⟩
 refine (Qe) ?_
 rcases (Classical.em (aa.aW w h = 0)) with hs | hs
 ·refine (Q4)<|(Al)<|(Q1) ?_
  have h4 := aa.pj hs
  have h1 := aa.jj hs
  refine jz TT 6 rfl (by omega) ?_
  refine oV (de (v := .int .i64 ((4 * w * h).toNat : Int)) (fP rfl rfl wI) (by congr 1; omega)) ?_
  refine kO ((4 * w * h).toNat) ((4 * w * h).toNat) (aD 62 .u16) rfl rfl V.ga V.EZ rfl rfl rfl rfl (by omega) (by omega) rfl rfl ?_
  intro b20
  refine oV (c5 V.uh V.vV rfl (cs := [.int .i64 w, .int .i64 h, .slice (some ⟨b20, 0, none⟩) ((4 * w * h).toNat) ((4 * w * h).toNat)]) rfl) ?_
  refine cu (bd V.gn rfl rfl (us := [_, _, _]) rfl rfl (by exact tg) (by exact Nat.le_of_ble_eq_true rfl) rfl) ?_
  refine rO TT 4 rfl ?_
  exact ag (dO V.gn rfl dM rfl rfl) (.inr ⟨hs, _, rfl, rfl⟩) (sub (aq .nil) bC)
 ·refine rC TT 3 rfl ?_
  refine oV (cJ (cE rfl rfl) (by omega)) ?_
  refine rO TT 5 rfl ?_
  refine oV (c5 V.uh V.vV rfl (cs := [.int .i64 0, .int .i64 0, .slice none 0 0]) rfl) ?_
  refine oV (jm rfl) ?_
  refine cu (bd V.gn rfl rfl (us := [_, _, _]) rfl rfl (by exact fW) (by exact Nat.le_of_ble_eq_true rfl) rfl) ?_
  refine rO TT 5 rfl ?_
  exact ag (dO V.gn rfl aA rfl rfl) (.inl ⟨hs, rfl, rfl⟩) (sub .nil bC)
set_option maxHeartbeats 1000000 in
theorem Uf (w h : Int) : aC Tryz.prog 35 [.int .i64 w, .int .i64 h] [] (aG fun v G => (aa.aW w h ≠ 0 ∧ v = .tuple #[.agg #[.int .i64 0, .int .i64 0, .slice none 0 0], .int .i64 (aa.aW w h)] ∧ G = []) ∨ (aa.aW w h = 0 ∧ ∃ b, v = .tuple #[.agg #[.int .i64 w, .int .i64 h, .slice (some ⟨b, 0, none⟩) ((4 * w * h).toNat) ((4 * w * h).toNat)], .int .i64 0] ∧ G = [Row (aD 62 .u16) (some ⟨b, 0, none⟩) ((4 * w * h).toNat) ((4 * w * h).toNat) (List.replicate (4 * w * h).toNat (aD 62 .u16).d)])) := by
 refine au [(0, _), (1, _)] Tryz.func35 rfl Tryz.ntmps35 rfl rfl ?_
 intro w0 F
 refine (Qr)<|(tA) ?_
 intro b4
 refine rO TT 7 rfl ?_
 refine aj (sL w h) V.H4  rfl .nil rfl ?_
 rintro _ _ ⟨rfl, rfl⟩
 refine (Qe) ?_
 rcases (Classical.em (aa.aW w h = 0)) with hs | hs
 ·refine (Q5)<|(Al)<|(Q1) ?_
  have h4 := aa.pj hs
  have h1 := aa.jj hs
  refine jz TT 6 rfl (by omega) ?_
  refine oV (de (v := .int .i64 ((4 * w * h).toNat : Int)) (fP rfl rfl wI) (by congr 1; omega)) ?_
  refine kO ((4 * w * h).toNat) ((4 * w * h).toNat) (aD 62 .u16) rfl rfl V.ga V.EZ rfl rfl rfl rfl (by omega) (by omega) rfl rfl ?_
  intro b20
  refine oV (c5 V.uh V.vV rfl (cs := [.int .i64 w, .int .i64 h, .slice (some ⟨b20, 0, none⟩) ((4 * w * h).toNat) ((4 * w * h).toNat)]) rfl) ?_
  refine cu (bd V.gn rfl rfl (us := [_, _, _]) rfl rfl (by exact tg) (by exact Nat.le_of_ble_eq_true rfl) rfl) ?_
  refine rO TT 4 rfl ?_
  exact ag (dO V.gn rfl dM rfl rfl) (.inr ⟨hs, _, rfl, rfl⟩) (sub (aq .nil) bC)
 ·refine (Q5)<|(PA)<|(Q3)<|(Yw)<|(Q6)<|(Ai)<|(Q3) ?_
  exact ag (dO V.gn rfl aA rfl rfl) (.inl ⟨hs, rfl, rfl⟩) (sub .nil bC)
set_option maxHeartbeats 1000000 in
theorem Ue (w h : Int) (q : Option Addr) (n c : Nat) (t : Bool) (ht : t = decide (aa.aW w h = 0 ∧ (n : Int) = 4 * w * h)) : aC Tryz.prog 67 [.agg #[.int .i64 w, .int .i64 h, .slice q n c]] [] (aG fun v G => v = .bool t ∧ G = []) := by
 refine au [(0, _)] Tryz.func67 rfl Tryz.ntmps67 rfl rfl ?_
 intro w0 F
 refine (Qr)<|(rF) ?_
 intro b1
 refine (Qe) ?_
 rcases (Classical.em (aa.aW w h = 0)) with hs | hs
 ·refine rC TT 3 rfl ?_
  refine oV (az V.s3 rfl aA rfl) ?_
  refine oV (bp V.tq rfl) ?_
  refine oV (az V.s3 rfl aA rfl) ?_
  refine aj (mg w h) V.vr  rfl .nil rfl ?_
  rintro _ _ ⟨rfl, rfl⟩
  refine oV (cJ (da rfl rfl) (by omega)) ?_
  refine rO TT 2 rfl ?_
  refine cL rfl ?_
  refine oV (az V.rz rfl aA rfl) ?_
  refine rO TT 2 rfl ?_
  refine cL rfl ?_
  refine oV (az V.s3 rfl aA rfl) ?_
  have h4 := aa.pj hs
  have h1 := aa.jj hs
  refine (vA)<|(Q0)<|(Ql)<|(A9) ?_
  (rw [show decide ((n : Int) = 4 * w * h) = t from by rw [ht]; congr 1; simp [hs]]; exact ag (G := []) (aw rfl) ⟨rfl, rfl⟩ (sub .nil bC))
 ·refine rC TT 3 rfl ?_
  refine oV (az V.s3 rfl aA rfl) ?_
  refine oV (bp V.tq rfl) ?_
  refine oV (az V.s3 rfl aA rfl) ?_
  refine aj (mg w h) V.vr  rfl .nil rfl ?_
  rintro _ _ ⟨rfl, rfl⟩
  refine (QC) ?_
  refine rO TT 16 rfl ?_
  (obtain rfl : t = false := by rw [ht]; exact decide_eq_false (fun hh => hs hh.1)
   exact ag (aw rfl) ⟨rfl, rfl⟩ (sub .nil bC))
set_option maxHeartbeats 1000000 in
theorem sI (w h : Int) (q : Option Addr) (n c : Nat) (t : Bool) (ht : t = decide (aa.aW w h = 0 ∧ (n : Int) = 4 * w * h)) : aC Tryz.prog 21 [.agg #[.int .i64 w, .int .i64 h, .slice q n c]] [] (aG fun v G => v = .bool t ∧ G = []) := by
 refine au [(0, _)] Tryz.func21 rfl Tryz.ntmps21 rfl rfl ?_
 intro w0 F
 refine (Qr)<|(rF) ?_
 intro b1
 refine (Qe) ?_
 rcases (Classical.em (aa.aW w h = 0)) with hs | hs
 ·refine rC TT 3 rfl ?_
  refine oV (az V.s3 rfl aA rfl) ?_
  refine oV (bp V.tq rfl) ?_
  refine oV (az V.s3 rfl aA rfl) ?_
  refine aj (sL w h) V.H4  rfl .nil rfl ?_
  rintro _ _ ⟨rfl, rfl⟩
  refine oV (cJ (da rfl rfl) (by omega)) ?_
  refine rO TT 2 rfl ?_
  refine cL rfl ?_
  refine oV (az V.rz rfl aA rfl) ?_
  refine rO TT 2 rfl ?_
  refine cL rfl ?_
  refine oV (az V.s3 rfl aA rfl) ?_
  have h4 := aa.pj hs
  have h1 := aa.jj hs
  refine (vA)<|(Q0)<|(Ql)<|(A9) ?_
  (rw [show decide ((n : Int) = 4 * w * h) = t from by rw [ht]; congr 1; simp [hs]]; exact ag (G := []) (aw rfl) ⟨rfl, rfl⟩ (sub .nil bC))
 ·refine rC TT 3 rfl ?_
  refine oV (az V.s3 rfl aA rfl) ?_
  refine oV (bp V.tq rfl) ?_
  refine oV (az V.s3 rfl aA rfl) ?_
  refine aj (sL w h) V.H4  rfl .nil rfl ?_
  rintro _ _ ⟨rfl, rfl⟩
  refine (QC) ?_
  refine rO TT 16 rfl ?_
  (obtain rfl : t = false := by rw [ht]; exact decide_eq_false (fun hh => hs hh.1)
   exact ag (aw rfl) ⟨rfl, rfl⟩ (sub .nil bC))
abbrev PK : Ec aa.Ps := ⟨145, 6, fun p => [.int .i64 p.x, .int .i64 p.y, .int .i64 p.dx, .int .i64 p.dy, .int .i64 p.w, .int .i64 p.h], ⟨0, 0, 0, 0, 0, 0⟩, fun _ => rfl, fun _ => rfl⟩
abbrev PKd : Ec aa.Ps := ⟨67, 6, fun p => [.int .i64 p.x, .int .i64 p.y, .int .i64 p.dx, .int .i64 p.dy, .int .i64 p.w, .int .i64 p.h], ⟨0, 0, 0, 0, 0, 0⟩, fun _ => rfl, fun _ => rfl⟩
set_option maxHeartbeats 1000000 in
theorem xU (n : Int) (t : Bool) (ht : t = decide (0 ≤ n ∧ n ≤ 256)) : aC Tryz.prog 116 [.int .i64 n] [] (aG fun v G => v = .bool t ∧ G = []) := by
 refine au [(0, _)] Tryz.func116 rfl Tryz.ntmps116 rfl rfl ?_
 intro w0 F
 refine (QI) ?_
 rcases (Classical.em (0 ≤ n)) with h0 | h0
 ·refine (Q4)<|(QN)<|(Qj) ?_
  (rw [show decide (n ≤ 256) = t from by rw [ht]; congr 1; simp [h0]]; exact ag (G := []) (aw rfl) ⟨rfl, rfl⟩ (sub .nil ao))
 ·refine (Q4)<|(oI)<|(Qj) ?_
  (obtain rfl : t = false := by rw [ht]; exact decide_eq_false (fun hh => h0 hh.1)
   exact ag (aw rfl) ⟨rfl, rfl⟩ (sub .nil ao))
set_option maxHeartbeats 1000000 in
theorem DZ (frm step en : Int) (hs : step = 1 ∨ step = 2 ∨ step = 4 ∨ step = 8) (hf : 0 ≤ frm ∧ frm ≤ 8) (he : 0 ≤ en ∧ en ≤ 256) : aC Tryz.prog 144 [.int .i64 frm, .int .i64 step, .int .i64 en] [] (aG fun v G => v = .int .i64 (aa.many frm step en) ∧ G = []) := by
 refine au [(0, _), (1, _), (2, _)] Tryz.func144 rfl Tryz.ntmps144 rfl rfl ?_
 intro w0 F
 refine (QI) ?_
 rcases (Classical.em (en ≤ frm)) with h0 | h0
 ·refine (Qg)<|(QN)<|(Qi) ?_
  rw [← aa.Uj hs frm h0]
  exact ag (aw rfl) ⟨rfl, rfl⟩ (sub .nil ao)
 ·refine (Qg)<|(oI) ?_
  refine iP TT 14 rfl (by omega)<|oV (ji (r := (en - frm + step - 1) / step) rfl rfl (by omega) (rS (m := en - frm + step - 1) (n := step) (by omega) (by omega) (by omega)))<|(Q8) ?_
  rw [← aa.Iy h0]
  exact ag (aw rfl) ⟨rfl, rfl⟩ (sub .nil ao)
set_option maxHeartbeats 1000000 in
theorem pD (x y dx dy w h : Int) (hx : 0 ≤ x ∧ x ≤ 8) (hy : 0 ≤ y ∧ y ≤ 8) (hdx : dx = 1 ∨ dx = 2 ∨ dx = 4 ∨ dx = 8) (hdy : dy = 1 ∨ dy = 2 ∨ dy = 4 ∨ dy = 8) (hw : 0 ≤ w ∧ w ≤ 256) (hh : 0 ≤ h ∧ h ≤ 256) : aC Tryz.prog 115 [.int .i64 x, .int .i64 y, .int .i64 dx, .int .i64 dy, .int .i64 w, .int .i64 h] [] (aG fun v G => v = .agg #[.int .i64 x, .int .i64 y, .int .i64 dx, .int .i64 dy, .int .i64 (aa.many x dx w), .int .i64 (aa.many y dy h)] ∧ G = []) := by
 refine au [(0, _), (1, _), (2, _), (3, _), (4, _), (5, _)] Tryz.func115 rfl Tryz.ntmps115 rfl rfl ?_
 intro w0 F
 refine (Qr) ?_
 refine c4 V.z145 rfl ?_
 intro b12
 refine (Qs) ?_
 refine aj (DZ x dx w hdx hx hw) V.Mx  rfl .nil rfl ?_
 rintro _ _ ⟨rfl, rfl⟩
 refine (Qe) ?_
 refine aj (DZ y dy h hdy hy hh) V.Mx  rfl .nil rfl ?_
 rintro _ _ ⟨rfl, rfl⟩
 refine oV (c5 V.T6 V.z145 rfl (cs := [.int .i64 x, .int .i64 y, .int .i64 dx, .int .i64 dy, .int .i64 (aa.many x dx w), .int .i64 (aa.many y dy h)]) (by kernel_rfl)) ?_
 refine cu (bd V.a145 rfl rfl (us := [_, _, _, _, _, _]) rfl rfl (by exact fW) (by exact Nat.le_of_ble_eq_true rfl) rfl) ?_
 refine rO TT 3 rfl ?_
 exact ag (Tq V.a145 rfl aA rfl) ⟨rfl, rfl⟩ (sub .nil bC)
set_option maxHeartbeats 1000000 in
theorem LK (w h : Int) (hs : aa.aW w h = 0) : aC Tryz.prog 81 [.int .i64 w, .int .i64 h] [] (aG fun v G => ∃ p c, v = .slice p (aa.whole w h).length c ∧ G = [Row PK p (aa.whole w h).length c (aa.whole w h)]) := by
 refine au [(0, _), (1, _)] Tryz.func81 rfl Tryz.ntmps81 rfl rfl ?_
 intro w0 F
 have hsd := aa.jj hs
 have hw : 0 ≤ w ∧ w ≤ 256 := by omega
 have hh : 0 ≤ h ∧ h ≤ 256 := by omega
 refine rT TT 10 rfl ?_
 refine aj (mg w h) V.vr  rfl .nil rfl ?_
 rintro _ _ ⟨rfl, rfl⟩
 rw [hs]
 refine (Al)<|(Qn) ?_
 refine aj (pD 0 0 1 1 w h (by decide) (by decide) (by decide) (by decide) hw hh) V.pB  rfl .nil rfl ?_
 rintro _ _ ⟨rfl, rfl⟩
 rw [aa.many1 hsd.1, aa.many1 hsd.2.2.1]
 refine cM (PK) [⟨0, 0, 1, 1, w, h⟩] V.tN V.z145 rfl rfl rfl (by kernel_rfl) rfl rfl ?_
 intro b12
 refine rO TT 4 rfl ?_
 exact ag (aw rfl) ⟨_, _, rfl, rfl⟩ (sub (aq .nil) ao)
set_option maxHeartbeats 1000000 in
theorem Gz (w h : Int) (hs : aa.aW w h = 0) : aC Tryz.prog 82 [.int .i64 w, .int .i64 h] [] (aG fun v G => ∃ p c, v = .slice p (aa.eS w h).length c ∧ G = [Row PK p (aa.eS w h).length c (aa.eS w h)]) := by
 refine au [(0, _), (1, _)] Tryz.func82 rfl Tryz.ntmps82 rfl rfl ?_
 intro w0 F
 have hsd := aa.jj hs
 have hw : 0 ≤ w ∧ w ≤ 256 := by omega
 have hh : 0 ≤ h ∧ h ≤ 256 := by omega
 obtain ⟨Z, hZ⟩ : ∃ Z, Z = (aa.hI w h).flatMap PK.e := ⟨_, rfl⟩
 have hZl : Z.length = 42 := by rw [hZ]; unfold aa.hI; rfl
 have hZ1 : Z.all Value.oneCell' = true := by rw [hZ]; exact mf PK _
 refine rT TT 10 rfl ?_
 refine aj (mg w h) V.vr  rfl .nil rfl ?_
 rintro _ _ ⟨rfl, rfl⟩
 rw [hs]
 refine (Al)<|(Qn) ?_
 refine aj (pD 0 0 8 8 w h (by decide) (by decide) (by decide) (by decide) hw hh) V.pB  rfl .nil rfl ?_
 rintro _ _ ⟨rfl, rfl⟩
 refine (Q7) ?_
 refine aj (pD 4 0 8 8 w h (by decide) (by decide) (by decide) (by decide) hw hh) V.pB  rfl .nil rfl ?_
 rintro _ _ ⟨rfl, rfl⟩
 refine (Q7) ?_
 refine aj (pD 0 4 4 8 w h (by decide) (by decide) (by decide) (by decide) hw hh) V.pB  rfl .nil rfl ?_
 rintro _ _ ⟨rfl, rfl⟩
 refine (Q7) ?_
 refine aj (pD 2 0 4 4 w h (by decide) (by decide) (by decide) (by decide) hw hh) V.pB  rfl .nil rfl ?_
 rintro _ _ ⟨rfl, rfl⟩
 refine (Q7) ?_
 refine aj (pD 0 2 2 4 w h (by decide) (by decide) (by decide) (by decide) hw hh) V.pB  rfl .nil rfl ?_
 rintro _ _ ⟨rfl, rfl⟩
 refine (Q7) ?_
 refine aj (pD 1 0 2 2 w h (by decide) (by decide) (by decide) (by decide) hw hh) V.pB  rfl .nil rfl ?_
 rintro _ _ ⟨rfl, rfl⟩
 refine (Q7) ?_
 refine aj (pD 0 1 1 2 w h (by decide) (by decide) (by decide) (by decide) hw hh) V.pB  rfl .nil rfl ?_
 rintro _ _ ⟨rfl, rfl⟩
 refine oV (iM V.I0 V.PN rfl (cs := Z) (by rw [hZ]; kernel_rfl))<|c4 V.PN rfl ?_
 intro b5
 refine cu (bd V.O3 rfl rfl (us := Z) (cs' := Z) hZ1 hZl (by exact fW) (by decide) (by rw [List.take_zero, List.nil_append, List.drop_eq_nil_of_le (by decide), List.append_nil]))<|(Qi) ?_
 refine oV (dH V.O3 rfl aA (vs := Z) hZl (by rw [List.drop_zero, ← hZl, List.take_length]))<|(Q8) ?_
 rw [show ((6 : Nat), Value.slice none 0 0) = (6, .slice none (aa.iw w h 0).length 0) from by rw [aa.DO]; rfl]
 refine jk (Row PK none (aa.iw w h 0).length 0 (aa.iw w h 0)) (by rw [aa.DO]; exact Row.nil _ _ _) ?_
 refine gM (fun (i : Nat) (p6 : Option Addr) (c6 : Nat) => [(6, .slice p6 (aa.iw w h i).length c6), (35, .agg Z.toArray), (36, .int .i64 (i : Int))]) (fun (i : Nat) (p6 : Option Addr) (c6 : Nat) => Row PK p6 (aa.iw w h i).length c6 (aa.iw w h i) :: F) (fun (i : Nat) (p6 : Option Addr) (c6 : Nat) => i ≤ 7) (fun (i : Nat) (p6 : Option Addr) (c6 : Nat) => 7 - i) (i3 (0) (none) (0) ?_ (fz ln) (sub (aq .nil) bC)) ?_
 ·exact Nat.zero_le _
 intro i p6 c6
 rintro hi
 have hpl := aa.Gv w h i
 obtain ⟨x, hx⟩ : ∃ x, x = (PK.g (aa.hI w h) (i : Int)) := ⟨_, rfl⟩
 have hx2 : (aa.hI w h).getD i ⟨0, 0, 0, 0, 0, 0⟩ = x := hx.symm
 refine (Qm) ?_
 refine aF rfl (fun h37 => ?_) (fun h37 => ?_)
 ·refine (Qd) ?_
  refine oV (de (v := .agg #[.int .i64 x.x, .int .i64 x.y, .int .i64 x.dx, .int .i64 x.dy, .int .i64 x.w, .int .i64 x.h]) (Kz PK (aa.hI w h) i V.I0 V.a145 rfl hZ rfl rfl (by omega) (by rw [aa.Hu]; omega) rfl) (by rw [← hx]))<|c4 V.z145 rfl ?_
  intro b8
  refine (Sw)<|(Q7) ?_
  rcases (aa.Ov x) with ⟨q1, q2⟩ | ⟨q1, q3, q2⟩ | ⟨q1, q3, q2⟩
  ·refine (tv)<|(Qq) ?_
   refine iP TT 15 rfl (by omega) ?_
   (rw [aa.DC (i := i) (by omega) hx2 q2]; exact j3 (i + 1) _ _ ⟨by omega, by omega⟩ (fz ln) (sub (.cons ay .nil) bC))
  ·refine (tv)<|(Qt)<|(Qk)<|(QQ)<|(Qq)<|(Af) ?_
   (rw [aa.DC (i := i) (by omega) hx2 q2]; exact j3 (i + 1) _ _ ⟨by omega, by omega⟩ (fz ln) (sub (.cons ay .nil) bC))
  ·refine (tv)<|(Qt)<|(Qk)<|(QQ)<|(Qt)<|(Q1)<|(R8) ?_
   refine cM (PK) [x] V.tN V.z145 rfl rfl rfl (by kernel_rfl) rfl rfl ?_
   intro b49
   refine ff (c := (PK)) V.tN V.z145 rfl rfl rfl rfl bj (own aA) (by omega) rfl ?_
   intro p50 c50
   refine (QG) ?_
   (have hl2 : (aa.iw w h i).length + 1 = (aa.iw w h (i + 1)).length := (congrArg List.length (aa.Dy (i := i) (p := x) (by omega) hx2 q2)).symm ▸ (by simp)
    rw [aa.Dy (i := i) (p := x) (by omega) hx2 q2, hl2]
    exact j3 (i + 1) _ _ ⟨by omega, by omega⟩ (fz ln) (sub (aq .nil) fS))
 ·refine (Qd) ?_
  obtain rfl : i = 7 := by omega
  rw [aa.Oo]
  refine (Qd) ?_
  exact ag (aw rfl) ⟨_, _, rfl, rfl⟩ (sub (aq .nil) ao)
end Go.Proofs.YtmaiakpjgomnpaaGreat
namespace Go.Proofs.YtmaiakpjgomnpaaGreat
open Go.Sl
theorem V.Hk : aB Tryz.prog 116 = true := by kernel_rfl
theorem V.Oh : aB Tryz.prog 117 = true := by kernel_rfl
theorem V.Xu : aB Tryz.prog 129 = true := by kernel_rfl
theorem V.kn : aB Tryz.prog 19 = true := by kernel_rfl
theorem V.Wd : aB Tryz.prog 94 = true := by kernel_rfl
end Go.Proofs.YtmaiakpjgomnpaaGreat
namespace Go.Proofs.YtmaiakpjgomnpaaGreat
open Go.Sl 
attribute [local irreducible] aa.aW aa.many aa.dv aa.eY aa.sH aa.pJ aa.hI aa.iw aa.parts aa.deep aa.YV
set_option maxHeartbeats 1000000 in
theorem ID (w bits : Int) (hw : 0 ≤ w ∧ w ≤ 256) (hb : 0 ≤ bits ∧ bits ≤ 64) : aC Tryz.prog 117 [.int .i64 w, .int .i64 bits] [] (aG fun v G => v = .int .i64 (aa.dv w bits) ∧ G = []) := by
 refine au [(0, _), (1, _)] Tryz.func117 rfl Tryz.ntmps117 rfl rfl ?_
 intro w0 F
 have hr := aa.nw hw hb
 have he : (w * bits + 7) / 8 = (aa.dv w bits) := by unfold aa.dv; rfl
 refine (QW) ?_
 refine aj (xU w true (decide_eq_true hw).symm) V.Hk  rfl .nil rfl ?_
 rintro _ _ ⟨rfl, rfl⟩
 refine (Qe) ?_
 refine (Q0) ?_
 refine (QM) ?_
 refine (Qe) ?_
 refine (Q0) ?_
 refine (Qq) ?_
 refine (Ah) ?_
 refine (pT) ?_
 refine (Q8) ?_
 exact ag (aw rfl) ⟨congrArg (Value.int .i64) he, rfl⟩ (sub .nil ao)
set_option maxHeartbeats 1000000 in
theorem LP (p : Option Addr) (c : Nat) (l : List aa.Ps) (bits : Int) (R : ab) (hR : ∀ w0 h, R w0 h → aE PK p l.length l w0 h) (hl : l.length ≤ 7) (hok : ∀ x ∈ l, aa.iX x) (hb : 0 ≤ bits ∧ bits ≤ 64) : aC Tryz.prog 83 [.slice p l.length c, .int .i64 bits] [R] (aG fun v G => v = .int .i64 (aa.eY l bits) ∧ G = [R]) := by
 refine au [(0, _), (1, _)] Tryz.func83 rfl Tryz.ntmps83 rfl rfl ?_
 intro w0 F
 refine rT TT 10 rfl ?_
 refine (Qq) ?_
 refine (Q7) ?_
 refine (Q0) ?_
 refine (QM) ?_
 refine (Qe) ?_
 refine (Q0) ?_
 refine (Qq) ?_
 refine rO TT 20 rfl ?_
 rw [show ((5 : Nat), Value.int .i64 0) = (5, .int .i64 (aa.eY (l.take 0) bits)) from by rw [List.take_zero]; unfold aa.eY; rfl]
 refine cB (fun (i : Nat) => [(1, .int .i64 bits), (5, .int .i64 (aa.eY (l.take i) bits)), (19, .slice p l.length c), (20, .int .i64 (l.length : Int)), (21, .int .i64 (i : Int))]) (fun (i : Nat) => R :: F) (fun (i : Nat) => i ≤ l.length) (fun (i : Nat) => l.length - i) (i1 (0) ?_ (bN ln) (sub (aq .nil) ao)) ?_
 ·exact Nat.zero_le _
 intro i
 rintro hi
 obtain ⟨x, hx⟩ : ∃ x, x = (PK.g l (i : Int)) := ⟨_, rfl⟩
 refine (Qm) ?_
 refine aF rfl (fun h22 => ?_) (fun h22 => ?_)
 ·refine (Qg) ?_
  have hpo : aa.iX x := hx ▸ aa.Lo hok (i := i) (by omega)
  have hpb := aa.De hpo hb
  have hbi := aa.vU (l := l.take i) hb (fun q hq => hok q (List.mem_of_mem_take hq))
  have hli : (l.take i).length ≤ i := by rw [List.length_take]; omega
  obtain ⟨_, _, _, _, _, _, hw0, hw1, hh0, hh1⟩ := hpo
  have hrn := aa.nw (w := x.w) ⟨hw0, hw1⟩ hb
  refine (Qo) ?_
  refine oV (xI V.tN (by exact bG hR aA))<|oV (de (v := .agg #[.int .i64 x.x, .int .i64 x.y, .int .i64 x.dx, .int .i64 x.dy, .int .i64 x.w, .int .i64 x.h]) (nt (c := PK) V.a145 rfl (by exact bG hR aA) (by omega) (by omega) rfl) (by rw [hx]))<|c4 V.z145 rfl ?_
  intro b7
  refine (Sw)<|(Q1)<|(Ql) ?_
  refine aj (xU x.w true (decide_eq_true ⟨hw0, hw1⟩).symm) V.Hk  rfl .nil rfl ?_
  rintro _ _ ⟨rfl, rfl⟩
  refine (Qf)<|(QQ) ?_
  refine aj (xU x.h true (decide_eq_true ⟨hh0, hh1⟩).symm) V.Hk  rfl .nil rfl ?_
  rintro _ _ ⟨rfl, rfl⟩
  refine (Qc) ?_
  rcases (Classical.em (0 < x.w)) with hq | hq
  ·refine (Q4) ?_
   refine (Ql) ?_
   refine (Qt) ?_
   refine (Qe) ?_
   refine wN [pz 0 [] [5], pz 0 [] [7], pz 2 [1] [], pz 0 [] [7], pz 8 [3] [], pz 0 [] [1], pz 56 [4, 5] [], pz 120 [6] [], pz 254 [2, 7] [], pz 511 [0, 8] [], pz 1023 [9] []] [⟨fun y => ai b7 145 [.int .i64 x.x, .int .i64 x.y, .int .i64 x.dx, .int .i64 x.dy, .int .i64 x.w, .int .i64 x.h], none, none, [2, 4]⟩, ⟨fun y => R, none, none, []⟩] F V.mixed ?_
   refine nM ?_
   refine nG V.P9 ?_
   refine (Qv) ?_
   refine nG V.NL ?_
   refine (Qv) ?_
   refine nM ?_
   refine nE (fun y FF hA => aX (Post := []) (ID x.w bits ⟨hw0, hw1⟩ hb) V.Oh rfl .nil (fun v G h => by rcases h with ⟨rfl, rfl⟩; exact ⟨rfl, .refl _⟩)) ?_
   refine (Qy) ?_
   refine nV (fun y hA L => fP (r := (x.h * (1 + aa.dv x.w bits))) rfl rfl wI) ?_
   refine (Qy) ?_
   refine nA ?_
   refine (Qb) ?_
   intro y hA
   clear hA
   show kC _ _ _ _ (ai b7 145 [.int .i64 x.x, .int .i64 x.y, .int .i64 x.dx, .int .i64 x.dy, .int .i64 x.w, .int .i64 x.h] :: R :: F)
   refine jD<|bg<|(Qo) ?_
   refine oV (eb rfl rfl wI)<|(Q6) ?_
   refine df ?_
   have ht := aa.rH (l := l) (bits := bits) (i := i) (by omega)
   rw [show l.getD i ⟨0, 0, 0, 0, 0, 0⟩ = x from hx.symm] at ht
   (rw [aa.Ud (by assumption)] at ht; rw [← ht]; exact j1 (i + 1) ⟨by omega, by omega⟩ (bN ln) (sub (.cons ay .nil) bC))
  ·refine (tv)<|(Qq)<|(Bi) ?_
   have ht := aa.rH (l := l) (bits := bits) (i := i) (by omega)
   rw [show l.getD i ⟨0, 0, 0, 0, 0, 0⟩ = x from hx.symm] at ht
   (rw [aa.TY (by assumption), Int.add_zero] at ht; rw [← ht]; exact j1 (i + 1) ⟨by omega, by omega⟩ (bN ln) (sub (.cons ay .nil) bC))
 ·refine (Qd) ?_
  obtain rfl : i = l.length := by omega
  rw [List.take_length]
  refine (Qd) ?_
  exact ag (aw rfl) ⟨rfl, rfl⟩ (sub (aq .nil) ao)
set_option maxHeartbeats 1000000 in
theorem Ld (p : Option Addr) (c : Nat) (l : List Int) (R : ab) (hR : ∀ w0 h, R w0 h → aE (aD 3 .i64) p l.length l w0 h) (hl : l.length < 500000000) (x : Int) : aC Tryz.prog 129 [.slice p l.length c, .int .i64 x] [R] (aG fun v G => ∃ r : Int, v = .int .i64 r ∧ (0 ≤ r ↔ x ∈ l) ∧ G = [R]) := by
 refine au [(0, _), (1, _)] Tryz.func129 rfl Tryz.ntmps129 rfl rfl ?_
 intro w0 F
 refine rT TT 14 rfl ?_
 refine cB (fun (i : Nat) => [(0, .slice p l.length c), (1, .int .i64 x), (7, .int .i64 (l.length : Int)), (8, .int .i64 (i : Int))]) (fun (i : Nat) => R :: F) (fun (i : Nat) => i ≤ l.length ∧ ∀ j, j < i → x ≠ l.getD j 0) (fun (i : Nat) => l.length - i) (i1 (0) ?_ (eQ ln) (sub (aq .nil) ao)) ?_
 ·exact ⟨Nat.zero_le _, fun j hj => by omega⟩
 intro i
 rintro ⟨hi, hall⟩
 refine (Qm) ?_
 refine aF rfl (fun h9 => ?_) (fun h9 => ?_)
 ·refine (QB) ?_
  rcases (Classical.em (x = ((aD 3 .i64).g l (i : Int)))) with hnx | hnx
  ·refine (Qg)<|(VP) ?_
   refine oV (cJ (da rfl rfl) hnx)<|(QK) ?_
   exact ag (aw rfl) ⟨_, rfl, ⟨fun _ => aa.MA (i := i) (by omega) hnx, fun _ => by omega⟩, rfl⟩ (sub (aq .nil) ao)
  ·refine (Qg)<|(VP) ?_
   refine oV (bR (da rfl rfl) hnx)<|(Bi) ?_
   refine j1 (i + 1) ?_ (eQ ln) (sub (aq .nil) ao)
   exact ⟨⟨by omega, fun j hj => (Nat.lt_succ_iff_lt_or_eq.1 hj).elim (hall j) (fun e => e ▸ hnx)⟩, by omega⟩
 ·refine (nS) ?_
  obtain rfl : i = l.length := by omega
  exact ag (aw rfl) ⟨_, rfl, ⟨fun hh => absurd hh (by decide), fun hh => absurd hh (aa.Mg hall)⟩, rfl⟩ (sub (aq .nil) ao)
set_option maxHeartbeats 1000000 in
theorem sE (p : Option Addr) (c : Nat) (l : List Int) (R : ab) (hR : ∀ w0 h, R w0 h → aE (aD 3 .i64) p l.length l w0 h) (hl : l.length < 500000000) (x : Int) (t : Bool) (ht : t = decide (x ∈ l)) : aC Tryz.prog 94 [.slice p l.length c, .int .i64 x] [R] (aG fun v G => v = .bool t ∧ G = [R]) := by
 refine au [(0, _), (1, _)] Tryz.func94 rfl Tryz.ntmps94 rfl rfl ?_
 intro w0 F
 refine (QW) ?_
 refine aj (Ld p c l R hR hl x) V.Xu  rfl (aq .nil) rfl ?_
 rintro _ _ ⟨r7, rfl, hr7, rfl⟩
 refine (Q3) ?_
 rw [aa.KN ht hr7]
 exact ag (aw rfl) ⟨rfl, rfl⟩ (sub (aq .nil) ao)
set_option maxHeartbeats 1000000 in
theorem iu (x : Int) : aC Tryz.prog 19 [.int .i64 x] [] (aG fun v G => v = .int .i64 (aa.parts x) ∧ G = []) := by
 refine au [(0, _)] Tryz.func19 rfl Tryz.ntmps19 rfl rfl ?_
 intro w0 F
 refine (QI) ?_
 rcases (aa.tZ x) with ⟨a0, hs⟩ | ⟨a0, a1, hs⟩ | ⟨a0, a1, a2, hs⟩ | ⟨a0, a1, a2, a3, hs⟩ | ⟨a0, a1, a2, a3, a4, hs⟩ | ⟨a0, a1, a2, a3, a4, hs⟩
 ·refine (QB)<|(QD)<|(QK) ?_
  exact ag (aw rfl) ⟨congrArg (Value.int .i64) hs.symm, rfl⟩ (sub .nil ao)
 ·refine (QB)<|(QC)<|(Q3)<|(QD)<|(QL) ?_
  exact ag (aw rfl) ⟨congrArg (Value.int .i64) hs.symm, rfl⟩ (sub .nil ao)
 ·refine (QB) ?_
  refine (QC) ?_
  refine (Q3) ?_
  refine (QC) ?_
  refine (Q1) ?_
  refine (QD) ?_
  refine (QL) ?_
  exact ag (aw rfl) ⟨congrArg (Value.int .i64) hs.symm, rfl⟩ (sub .nil ao)
 ·refine (QB) ?_
  refine (QC) ?_
  refine (Q3) ?_
  refine (QC) ?_
  refine (Q1) ?_
  refine (QC) ?_
  refine (Q1) ?_
  refine (QD) ?_
  refine (QL) ?_
  exact ag (aw rfl) ⟨congrArg (Value.int .i64) hs.symm, rfl⟩ (sub .nil ao)
 ·refine (QB) ?_
  refine (QC) ?_
  refine (Q3) ?_
  refine (QC) ?_
  refine (Q1) ?_
  refine (QC) ?_
  refine (Q1) ?_
  refine (QC) ?_
  refine (Q1) ?_
  refine (QD) ?_
  refine (QL) ?_
  exact ag (aw rfl) ⟨congrArg (Value.int .i64) hs.symm, rfl⟩ (sub .nil ao)
 ·refine (QB) ?_
  refine (QC) ?_
  refine (Q3) ?_
  refine (QC) ?_
  refine (Q1) ?_
  refine (QC) ?_
  refine (Q1) ?_
  refine (QC) ?_
  refine (Q1) ?_
  refine (QC) ?_
  refine (Qu) ?_
  exact ag (aw rfl) ⟨congrArg (Value.int .i64) hs.symm, rfl⟩ (sub .nil ao)
set_option maxHeartbeats 1000000 in
theorem CQ (x d : Int) (t : Bool) (ht : t = decide (aa.deep x d)) : aC Tryz.prog 57 [.int .i64 x, .int .i64 d] [] (aG fun v G => v = .bool t ∧ G = []) := by
 refine au [(0, _), (1, _)] Tryz.func57 rfl Tryz.ntmps57 rfl rfl ?_
 intro w0 F
 refine (QI) ?_
 rcases (aa.TQ x d) with ⟨a0, hs⟩ | ⟨a0, a1, hs⟩ | ⟨a0, a1, a2, hs⟩ | ⟨a0, a1, a2, a3, hs⟩ | ⟨a0, a1, a2, a3, hs⟩
 ·refine (oO)<|(QD)<|(Q1) ?_
  refine cM (I3) [1, 2, 4, 8, 16] V.cA V.z3 rfl rfl rfl rfl rfl rfl ?_
  intro b8
  refine (Q6) ?_
  refine aj (sE (some ⟨b8, 0, none⟩) 5 [1, 2, 4, 8, 16] (Row (aD 3 .i64) (some ⟨b8, 0, none⟩) 5 5 [1, 2, 4, 8, 16]) (fun _ _ hh => hh.rd) (by decide) d t (ht.trans hs)) V.Wd  rfl (aq .nil) rfl ?_
  rintro _ _ ⟨rfl, rfl⟩
  refine (Q1) ?_
  (rw [ht.trans hs]; exact ag (G := []) (aw rfl) ⟨rfl, rfl⟩ (sub .nil bC))
 ·refine (oO) ?_
  refine (QC) ?_
  refine (Q1) ?_
  refine (QD) ?_
  refine (Q1) ?_
  refine cM (I3) [1, 2, 4, 8] V.cA V.z3 rfl rfl rfl rfl rfl rfl ?_
  intro yq
  refine (Q6) ?_
  refine aj (sE (some ⟨yq, 0, none⟩) 4 [1, 2, 4, 8] (Row (aD 3 .i64) (some ⟨yq, 0, none⟩) 4 4 [1, 2, 4, 8]) (fun _ _ hh => hh.rd) (by decide) d t (ht.trans hs)) V.Wd  rfl (aq .nil) rfl ?_
  rintro _ _ ⟨rfl, rfl⟩
  refine (Q1) ?_
  (rw [ht.trans hs]; exact ag (G := []) (aw rfl) ⟨rfl, rfl⟩ (sub .nil bC))
 ·refine (oO) ?_
  refine (QC) ?_
  refine (Q1) ?_
  refine (QC) ?_
  refine (Qi) ?_
  refine (MC) ?_
  rintro _ _ ⟨rfl, rfl⟩
  refine (Qq)<|(QL) ?_
  (rw [← ht.trans hs]; exact ag (G := []) (aw rfl) ⟨rfl, rfl⟩ (sub .nil ao))
 ·refine (oO) ?_
  refine (QC) ?_
  refine (Q1) ?_
  refine (QC) ?_
  refine (Qi) ?_
  refine (MC) ?_
  rintro _ _ ⟨rfl, rfl⟩
  refine (Qt)<|(Qk)<|(QD)<|(Qn) ?_
  (rw [← ht.trans hs]; exact ag (G := []) (aw rfl) ⟨rfl, rfl⟩ (sub .nil ao))
 ·refine (oO) ?_
  refine (QC) ?_
  refine (Q1) ?_
  refine (QC) ?_
  refine (Qi) ?_
  refine (MC) ?_
  rintro _ _ ⟨rfl, rfl⟩
  refine (Qt)<|(Qk)<|(QC)<|(Qn) ?_
  (rw [← ht.trans hs]; exact ag (G := []) (aw rfl) ⟨rfl, rfl⟩ (sub .nil ao))
end Go.Proofs.YtmaiakpjgomnpaaGreat
namespace Go.Proofs.YtmaiakpjgomnpaaGreat
open Go.Sl
theorem V.Rc : aB Tryz.prog 140 = true := by kernel_rfl
theorem V.Yk : aB Tryz.prog 141 = true := by kernel_rfl
theorem V.HA : aB Tryz.prog 163 = true := by kernel_rfl
theorem V.F4 : aB Tryz.prog 164 = true := by kernel_rfl
theorem V.XW : aB Tryz.prog 165 = true := by kernel_rfl
end Go.Proofs.YtmaiakpjgomnpaaGreat
namespace Go.Proofs.YtmaiakpjgomnpaaGreat
open Go.Sl
theorem V.m9 : gq Tryz.prog 68 = some (4, 62, 1) := by kernel_rfl
theorem V.Xr : aB Tryz.prog 161 = true := by kernel_rfl
theorem V.Og : aB Tryz.prog 172 = true := by kernel_rfl
theorem V.XY : aB Tryz.prog 185 = true := by kernel_rfl
theorem V.oQ : aB Tryz.prog 21 = true := by kernel_rfl
theorem V.Iw : aB Tryz.prog 67 = true := by kernel_rfl
theorem V.Zl : aB Tryz.prog 93 = true := by kernel_rfl
theorem V.Yy : a7 Tryz.prog 158 0 = some 0 := by kernel_rfl
theorem V.Um : ew Tryz.prog 158 = some [(0, 4)] := by kernel_rfl
theorem V.W1 : cm Tryz.prog 158 = some ([.slice none 0 0, .slice none 0 0, .int .i64 0, .int .i64 0]) := by kernel_rfl
end Go.Proofs.YtmaiakpjgomnpaaGreat
namespace Go.Proofs.YtmaiakpjgomnpaaGreat
open Go.Sl 
attribute [local irreducible] af.ak aa.aW aa.up aa.bM aa.fJ
def HW (b : Nat) (B : List Int) (at_ : Nat) (out : List Int) (free : Int) : ab := fun w0 h => ∃ i : Lv, True ∧ bU w0 [ai b 158 [.slice i.p1 B.length i.c1, .slice i.p2 out.length i.c2, .int .i64 (at_ : Int), .int .i64 free], Row U5 i.p1 B.length i.c1 B, Row U5 i.p2 out.length i.c2 out] h
theorem sg {b at_ : Nat} {p1 p2 : Option Addr} {c1 c2 : Nat} {B out : List Int} {free : Int} {w0 : World} {h : Hp}
  (hh : bU w0 [ai b 158 [.slice p1 B.length c1, .slice p2 out.length c2, .int .i64 (at_ : Int), .int .i64 free], Row U5 p1 B.length c1 B, Row U5 p2 out.length c2 out] h) : HW b B at_ out free w0 h := ⟨⟨p1, c1, p2, c2⟩, trivial, hh⟩
theorem LJ (b : Nat) (B : List Int) (at_ : Nat) (out : List Int) (free : Int) (hl : B.length < 500000000) (ha : at_ ≤ 8 * B.length) : aC Tryz.prog 128 [.pointer (some ⟨b, 0, none⟩)] [HW b B at_ out free] (aG fun v G => v = .int .i64 (8 * (B.length : Int) - (at_ : Int)) ∧ G = [HW b B at_ out free]) := by
 refine au [(0, _)] Tryz.func128 rfl Tryz.ntmps128 rfl rfl ?_
 intro w0 F
 refine (qg) ?_
 rintro ⟨p1, c1, p2, c2⟩ _
 dsimp only
 refine (QV) ?_
 refine (rJ) ?_
 refine rR TT 3 rfl ?_
 refine (zZ) ?_
 refine P7 TT 5 rfl (by omega) ?_
 refine oR (az V.s3 rfl aA rfl) ?_
 refine P7 TT 2 rfl (by omega) ?_
 refine Rg.df ?_
 refine rN TT 2 rfl ?_
 exact ag (aw rfl) ⟨rfl, rfl⟩ (aM (fQ .nil) ao (fun w0 h hh => sg hh))
theorem M4 (b : Nat) (B : List Int) (at_ : Nat) (out : List Int) (free : Int) (n : Int) (hl : B.length < 500000000) (ha : at_ ≤ 8 * B.length) (hn : 0 ≤ n ∧ n ≤ 24 ∧ n ≤ 8 * (B.length : Int) - at_) : aC Tryz.prog 92 [.pointer (some ⟨b, 0, none⟩), .int .i64 n] [HW b B at_ out free] (aG fun v G => v = .tuple #[] ∧ G = [HW b B at_ out free]) := by
 refine (Ru) ?_
 intro w0 F
 refine rT TT 3 rfl ?_
 refine (QM) ?_
 refine (Q7) ?_
 refine (Q0) ?_
 refine (Qq) ?_
 refine (Q8) ?_
 refine (Q0) ?_
 refine aj (LJ b B at_ out free hl ha) V.NP  rfl (aq .nil) rfl ?_
 rintro _ _ ⟨rfl, rfl⟩
 refine (Q0)<|(Qq)<|(Q3) ?_
 exact gv ez ⟨rfl, rfl⟩ (sub (aq .nil) ao)
theorem LS (b : Nat) (B : List Int) (at_ : Nat) (out : List Int) (free : Int) (hl : B.length < 500000000) (hB : af.ak B) (ha : at_ < 8 * B.length) : aC Tryz.prog 93 [.pointer (some ⟨b, 0, none⟩)] [HW b B at_ out free] (aG fun v G => v = .int .i64 (aa.fJ B at_) ∧ G = [HW b B (at_ + 1) out free]) := by
 refine au [(0, _)] Tryz.func93 rfl Tryz.ntmps93 rfl rfl ?_
 intro w0 F
 refine (qg) ?_
 rintro ⟨p1, c1, p2, c2⟩ _
 dsimp only
 have hq : U5.g B ((at_ : Int) / 8) = B.getD (at_ / 8) 0 := gE (at_ / 8) (by omega)
 have hb := hB.get (at_ / 8)
 have hd := af.xb hb.1 hb.2 (7 - at_ % 8)
 have hb2 := aa.ri B at_
 have hbd : B.getD (at_ / 8) 0 / 2 ^ (7 - at_ % 8) % 2 = aa.fJ B at_ := by unfold aa.fJ; rfl
 refine (QV)<|(rJ) ?_
 refine rR TT 4 rfl<|(zZ) ?_
 refine rR TT 4 rfl<|oR (az V.s3 rfl aA rfl)<|oR (ji rfl rfl (by omega) (rS (by omega) (by omega) (by omega)))<|oR (xI V.bK (own dM))<|oR (xL V.s5 (own dM))<|rR TT 4 rfl<|oR (az V.s3 rfl aA rfl)<|oR (kX rfl rfl (by omega) (mX (by omega)))<|P7 TT 1 rfl (by omega)<|oR (dP (r := B.getD (at_ / 8) 0 / 2 ^ (7 - at_ % 8)) rfl rfl (by omega) (by rw [hq]; exact af.Rn hb.1 (by omega) (by omega)))<|oR (iO rfl)<|Rg.df<|rN TT 7 rfl<|(Ql)<|(vK)<|(pL)<|(Q3) ?_
 refine oV (jG (r := aa.fJ B at_) rfl rfl ((af.yW hd.1 hd.2).trans hbd))<|(qa)<|(Q8) ?_
 rw [show (at_ : Int) + 1 = ((at_ + 1 : Nat) : Int) from by omega]
 exact ag (aw rfl) ⟨rfl, rfl⟩ (aM (fQ .nil) ao (fun w0 h hh => sg hh))
theorem jE (b : Nat) (B : List Int) (at_ : Nat) (out : List Int) (free : Int) (n : Nat) (hl : B.length < 500000000) (hB : af.ak B) (hn : n ≤ 24) (ha : at_ + n ≤ 8 * B.length) : aC Tryz.prog 56 [.pointer (some ⟨b, 0, none⟩), .int .i64 (n : Int)] [HW b B at_ out free] (aG fun v G => v = .int .i64 (aa.bM B at_ n) ∧ G = [HW b B (at_ + n) out free]) := by
 refine au [(0, _), (1, _)] Tryz.func56 rfl Tryz.ntmps56 rfl rfl ?_
 intro w0 F
 refine rT TT 11 rfl<|aj (M4 b B at_ out free n hl (by omega) (by omega)) V.RS  rfl (aq .nil) rfl ?_
 rintro _ _ ⟨rfl, rfl⟩
 refine (QK) ?_
 rw [show ((5 : Nat), Value.int .i64 0) = (5, .int .i64 (aa.bM B at_ 0)) from by unfold aa.bM; rfl]
 refine cB (fun (k : Nat) => [(0, .pointer (some ⟨b, 0, none⟩)), (5, .int .i64 (aa.bM B at_ k)), (11, .int .i64 (n : Int)), (12, .int .i64 (k : Int))]) (fun (k : Nat) => HW b B (at_ + k) out free :: F) (fun (k : Nat) => k ≤ n) (fun (k : Nat) => n - k) (i1 (0) ?_ (eQ ln) (sub (aq .nil) ao)) ?_
 ·exact Nat.zero_le _
 intro k
 rintro hk
 refine (Qm) ?_
 refine aF rfl (fun h13 => ?_) (fun h13 => ?_)
 ·refine (Q5) ?_
  have hb := aa.ri B (at_ + k)
  have hnb := aa.uF B at_ (n := k) (by omega)
  refine (Qa) ?_
  refine oV (gS (r := 2 * (aa.bM B at_ k)) rfl rfl (by decide) (aa.UH (by omega)))<|(Q6) ?_
  refine aj (LS b B (at_ + k) out free hl hB (by omega)) V.Zl  rfl (aq .nil) rfl ?_
  rintro _ _ ⟨rfl, rfl⟩
  refine oV (ow (r := (aa.bM B at_ (k + 1))) rfl rfl (aa.YI (by omega)))<|(QG) ?_
  refine j1 (k + 1) ?_ (eQ ln) (sub (aq .nil) ao)
  exact ⟨by omega, by omega⟩
 ·refine rC TT 12 rfl ?_
  obtain rfl : k = n := by omega
  exact ag (aw rfl) ⟨rfl, rfl⟩ (sub (aq .nil) ao)
theorem yc (p : Option Addr) (cap : Nat) (B : List Int) (R : ab) (hR : ∀ w0 h, R w0 h → aE U5 p B.length B w0 h) (hl : B.length < 500000000) : aC Tryz.prog 54 [.slice p B.length cap] [R] (aG fun v G => ∃ b, v = .pointer (some ⟨b, 0, none⟩) ∧ G = [HW b B 0 [] 0, R]) := by
 refine au [(0, _)] Tryz.func54 rfl Tryz.ntmps54 rfl rfl ?_
 intro w0 F
 refine (QJ) ?_
 refine aj (nD p cap B R hR hl) V.zw  rfl (aq .nil) rfl ?_
 rintro _ _ ⟨q, c, rfl, rfl⟩
 refine (UL) ?_
 refine oV (c5 V.Um V.W1 rfl (cs := [.slice q B.length c, .slice none 0 0, .int .i64 0, .int .i64 0]) rfl)<|(Vs) ?_
 intro b7
 refine (Q8) ?_
 exact ag (aw rfl) ⟨b7, rfl, rfl⟩ ((cZ (A := Row U5 none 0 0 []) (fun w0 => Row.nil _ _ _)).trans ((aM (.cons ay (.cons ay (aq .nil))) ao (fun w0 h hh => sg (p1 := q) (c1 := c) (p2 := none) (c2 := 0) (B := B) (out := []) (at_ := 0) (free := 0) hh)).trans (sub (aT .nil) ao)))
theorem Z6 (w h ar : Int) (aZ : Bool) (d x : Int) (hd : aa.iy d) (hx : 0 ≤ x ∧ x < 2 ^ d.toNat) : aC Tryz.prog 90 [.agg #[.int .i64 w, .int .i64 h, .int .i64 d, .int .i64 ar, .bool aZ], .int .i64 x] [] (aG fun v G => v = .int .u16 (aa.up d x) ∧ G = []) := by
 refine au [(0, _), (1, _)] Tryz.func90 rfl Tryz.ntmps90 rfl rfl ?_
 intro w0 F
 obtain ⟨P, hP⟩ : ∃ P : Int, P = 2 ^ d.toNat := ⟨_, rfl⟩
 have hpb : 2 ≤ P ∧ P ≤ 65536 := hP ▸ aa.lO hd
 have hdi := aa.iU hd
 have hxP : x < P := hP ▸ hx.2
 have hui := aa.CL hd hx.1 hx.2
 have hq := Int.ediv_le_self (P - 1) (by decide : (0 : Int) ≤ 65535)
 have hq0 : 0 ≤ 65535 / (P - 1) := Int.ediv_nonneg (by decide) (by omega)
 refine (Qr) ?_
 refine iL rfl (cs := [_, _, _, _, _]) rfl rfl ?_
 intro b2
 refine (Qc)<|(Ql)<|(Ed)<|(Dk) ?_
 refine iP TT 1 rfl (by omega)<|(VA)<|(Vw)<|(Q8) ?_
 exact ag (aw rfl) ⟨rfl, rfl⟩ (sub .nil bC)
set_option maxHeartbeats 1000000 in
theorem Gl (d : Int) (hd : aa.iy d) : aC Tryz.prog 185 [.int .i64 d] [] (aG fun v G => v = .bool true ∧ G = []) := by
 refine au [(0, _)] Tryz.func185 rfl Tryz.ntmps185 rfl rfl ?_
 intro w0 F
 refine (QI) ?_
 rcases (aa.Lx hd) with rfl | ⟨q0, rfl⟩ | ⟨q0, q1, rfl⟩ | ⟨q0, q1, q2, rfl⟩ | ⟨q0, q1, q2, q3, rfl⟩
 ·refine (QB)<|(yt)<|(QK) ?_
  exact ag (aw rfl) ⟨rfl, rfl⟩ (sub .nil ao)
 ·refine (QB)<|(oT)<|(Q1)<|(yt)<|(QK) ?_
  exact ag (aw rfl) ⟨rfl, rfl⟩ (sub .nil ao)
 ·refine (QB)<|(oT)<|(Q1)<|(oT)<|(Q1)<|(yt)<|(QK) ?_
  exact ag (aw rfl) ⟨rfl, rfl⟩ (sub .nil ao)
 ·refine (QB)<|(oT)<|(Q1)<|(oT)<|(Q1)<|(oT)<|(Q1)<|(yt)<|(QK) ?_
  exact ag (aw rfl) ⟨rfl, rfl⟩ (sub .nil ao)
 ·refine (QB)<|(oT)<|(Q1)<|(oT)<|(Q1)<|(oT)<|(Q1)<|(oT)<|(Q3)<|(yt)<|(QL) ?_
  exact ag (aw rfl) ⟨rfl, rfl⟩ (sub .nil ao)
set_option maxHeartbeats 1000000 in
theorem NF (d x : Int) (hd : aa.iy d) (hx : 0 ≤ x ∧ x < 2 ^ d.toNat) : aC Tryz.prog 172 [.int .i64 x, .int .i64 d] [] (aG fun v G => v = .tuple #[.int .u16 (aa.up d x), .bool true] ∧ G = []) := by
 refine au [(0, _), (1, _)] Tryz.func172 rfl Tryz.ntmps172 rfl rfl ?_
 intro w0 F
 obtain ⟨P, hP⟩ : ∃ P : Int, P = 2 ^ d.toNat := ⟨_, rfl⟩
 have hpb : 2 ≤ P ∧ P ≤ 65536 := hP ▸ aa.lO hd
 have hdi := aa.iU hd
 have hxP : x < P := hP ▸ hx.2
 have hui := aa.CL hd hx.1 hx.2
 have hq := Int.ediv_le_self (P - 1) (by decide : (0 : Int) ≤ 65535)
 have hq0 : 0 ≤ 65535 / (P - 1) := Int.ediv_nonneg (by decide) (by omega)
 refine rT TT 10 rfl<|aj (Gl d hd) V.XY  rfl .nil rfl ?_
 rintro _ _ ⟨rfl, rfl⟩
 refine (Qf)<|(QM)<|(Qz)<|(Dk)<|(Q0)<|(oI)<|(Qi)<|(Dk) ?_
 refine iP TT 1 rfl (by omega)<|(VA)<|(Vw)<|(Q3) ?_
 exact ag (eC rfl rfl) ⟨rfl, rfl⟩ (sub .nil ao)
theorem s7 (x : Int) (hx : 0 ≤ x ∧ x < 256) : aC Tryz.prog 184 [.int .u8 x] [] (aG fun v G => v = .int .u16 (x * 257) ∧ G = []) := by
 refine au [(0, _)] Tryz.func184 rfl Tryz.ntmps184 rfl rfl ?_
 intro w0 F
 refine (QJ)<|(qa) ?_
 refine aj (NF 8 x (.inr (.inr (.inr (.inl rfl)))) hx) V.Og  rfl .nil rfl ?_
 rintro _ _ ⟨rfl, rfl⟩
 rw [aa.YY]
 refine (QP) ?_
 exact ag (aw rfl) ⟨rfl, rfl⟩ (sub .nil ao)
set_option maxHeartbeats 1000000 in
theorem XU (w h : Int) (hs : aa.aW w h = 0) (q : Option Addr) (n c : Nat) (hn : (n : Int) = 4 * w * h) (xx yy : Int) (hx : 0 ≤ xx ∧ xx < w) (hy : 0 ≤ yy ∧ yy < h) : aC Tryz.prog 161 [.agg #[.int .i64 w, .int .i64 h, .slice q n c], .int .i64 xx, .int .i64 yy] [] (aG fun v G => v = .tuple #[.int .i64 (4 * (yy * w + xx)), .bool true] ∧ G = []) := by
 refine au [(0, _), (1, _), (2, _)] Tryz.func161 rfl Tryz.ntmps161 rfl rfl ?_
 intro w0 F
 have hsd := aa.jj hs
 have hp := aa.tH hx hy
 have h44 : 4 * w * h = 4 * (w * h) := Int.mul_assoc _ _ _
 refine (Qr)<|(rF) ?_
 intro b3
 refine (Q1)<|(xy) ?_
 refine aj (Ue w h q n c true (decide_eq_true ⟨hs, hn⟩).symm) V.Iw  rfl .nil rfl ?_
 rintro _ _ ⟨rfl, rfl⟩
 refine (Q7) ?_
 refine (Q0) ?_
 refine (QN) ?_
 refine (Q8) ?_
 refine (Q0) ?_
 refine (Ql) ?_
 refine (Q0) ?_
 refine (QO) ?_
 refine (Qe) ?_
 refine (Q0) ?_
 refine (QN) ?_
 refine (Q8) ?_
 refine (Q0) ?_
 refine (Ql) ?_
 refine (Q0) ?_
 refine (QO) ?_
 refine (Qj) ?_
 refine (Ql) ?_
 refine (Bi) ?_
 exact ag (eC rfl rfl) ⟨rfl, rfl⟩ (sub .nil bC)
set_option maxHeartbeats 2000000 in
theorem T8 (w h : Int) (hs : aa.aW w h = 0) (q : Option Addr) (n c : Nat) (hn : (n : Int) = 4 * w * h) (hcap : n ≤ c) (l : List Int) (xx yy : Int) (hx : 0 ≤ xx ∧ xx < w) (hy : 0 ≤ yy ∧ yy < h) (c0 c1 c2 c3 : Int) : aC Tryz.prog 152 [.agg #[.int .i64 w, .int .i64 h, .slice q n c], .int .i64 xx, .int .i64 yy, .agg #[.int .u16 c0, .int .u16 c1, .int .u16 c2, .int .u16 c3]] [Row (aD 62 .u16) q n c l] (aG fun v G => v = .bool true ∧ G = [Row (aD 62 .u16) q n c (aa.kW w l xx yy [c0, c1, c2, c3])]) := by
 refine au [(0, _), (1, _), (2, _), (3, _)] Tryz.func152 rfl Tryz.ntmps152 rfl rfl ?_
 intro w0 F
 have hsd := aa.jj hs
 have hp := aa.tH hx hy
 have h44 : 4 * w * h = 4 * (w * h) := Int.mul_assoc _ _ _
 refine (Qr)<|(rF) ?_
 intro b4
 refine iL rfl (cs := CA [] .u16 [c0, c1, c2, c3] []) rfl rfl ?_
 intro b7
 refine (Q3)<|(qm)<|(Q7) ?_
 refine aj (XU w h hs q n c hn xx yy hx hy) V.Xr  rfl .nil rfl ?_
 rintro _ _ ⟨rfl, rfl⟩
 refine (QP) ?_
 refine wN [pz 0 [] [4], pz 1 [0] [], pz 0 [] [9], pz 7 [1, 2] [], pz 0 [] [7], pz 31 [3, 4] []] [⟨fun y => ai b7 68 (CA [] .u16 [c0, c1, c2, c3] []), none, none, [5]⟩, ⟨fun y => ai b4 26 [.int .i64 w, .int .i64 h, .slice q n c], none, none, [1]⟩, ⟨fun y => Row (aD 62 .u16) q n c l, none, some 5, []⟩, ⟨fun y => Row (aD 62 .u16) q n c (aa.kW w l xx yy [c0, c1, c2, c3]), some 5, none, []⟩] F V.mixed ?_
 refine nG V.sG ?_
 refine (Iz) ?_
 refine nM ?_
 refine nV (fun y hA L => dY ((4 * (yy * w + xx))).toNat _ _ V.ga rfl ⟨_, (show an _ _ = some (.int _ (4 * (yy * w + xx))) from rfl).trans (by rw [Int.toNat_of_nonneg (by omega)])⟩ ⟨rfl, rfl⟩ rfl (by omega) (by omega) (by omega)) ?_
 refine nV (fun y hA L => vz V.m9 rfl) ?_
 refine nE (fun y FF hA => xJ (Py (c := (aD 62 .u16)) (k := (4 * (yy * w + xx)).toNat) (n := n) (cap := c) (l := l) (ws := [c0, c1, c2, c3]) (cnt := 4) rfl V.ga rfl rfl fR.head (Zf (by exact .head _)) (by omega) (by omega) (by omega) (by omega)) (.refl _)) ?_
 refine (Qb) ?_
 intro y hA
 clear hA
 refine bg<|bD _ (.cons (d := 10) rfl (.nil _))<|bb (M := ai b7 68 (CA [] .u16 [c0, c1, c2, c3] []) :: ai b4 26 [.int .i64 w, .int .i64 h, .slice q n c] :: Row (aD 62 .u16) q n c (aa.kW w l xx yy [c0, c1, c2, c3]) :: F) (fun _ _ h => h)<|(Qp) ?_
 exact ag (aw rfl) ⟨rfl, rfl⟩ (sub (.cons bj .nil) fS)
end Go.Proofs.YtmaiakpjgomnpaaGreat
namespace Go.Proofs.YtmaiakpjgomnpaaGreat
open Go.Sl
theorem V.nQ : gf Tryz.prog 35 = some 5 := by kernel_rfl
theorem V.kA : gf Tryz.prog 68 = some 4 := by kernel_rfl
theorem V.Ow : aB Tryz.prog 54 = true := by kernel_rfl
theorem V.UY : aB Tryz.prog 55 = true := by kernel_rfl
theorem V.sV : aB Tryz.prog 56 = true := by kernel_rfl
theorem V.U7 : aB Tryz.prog 57 = true := by kernel_rfl
theorem V.Cq : a7 Tryz.prog 35 0 = some 0 := by kernel_rfl
theorem V.sX : a7 Tryz.prog 35 1 = some 1 := by kernel_rfl
theorem V.wz : a7 Tryz.prog 35 2 = some 2 := by kernel_rfl
theorem V.qN : a7 Tryz.prog 35 3 = some 3 := by kernel_rfl
theorem V.ZG : a7 Tryz.prog 35 4 = some 4 := by kernel_rfl
theorem V.P4 : ew Tryz.prog 35 = some [(0, 1), (1, 1), (2, 1), (3, 1), (4, 1)] := by kernel_rfl
theorem V.Pg : bP Tryz.prog 105 = true := by kernel_rfl
theorem V.lr : bP Tryz.prog 62 = true := by kernel_rfl
theorem V.z105 : cm Tryz.prog 105 = some ([.pointer none]) := by kernel_rfl
theorem V.ve : cm Tryz.prog 35 = some ([.int .i64 0, .int .i64 0, .int .i64 0, .int .i64 0, .bool false]) := by kernel_rfl
theorem V.tt : cm Tryz.prog 68 = some ([.int .u16 0, .int .u16 0, .int .u16 0, .int .u16 0]) := by kernel_rfl
end Go.Proofs.YtmaiakpjgomnpaaGreat
namespace Go.Proofs.YtmaiakpjgomnpaaGreat
open Go.Sl 
attribute [local irreducible] af.ak aa.aW aa.up aa.bM aa.fJ aa.D2 aa.eF aa.jh aa.deep aa.parts HW
abbrev HV (h : aa.Hd) : Value := .agg #[.int .i64 h.w, .int .i64 h.h, .int .i64 h.dep, .int .i64 h.ar, .bool h.aZ]
theorem Px {w0 : World} {L : List ab} {c : Ec Int} {p : Option Addr} {n : Nat} {l X : List Int} (hsz : c.sz = 1) (H : Has w0 L c p n l) (k m : Nat) (h : k + 4 ≤ n) (hm : k + 4 ≤ m) (hX : (l.drop k).take 4 = X) : Has w0 L c (dm p k m 1) 4 X := by
 have := H.sub k (k + 4) m (by omega) h hm
 rw [hsz, Nat.add_sub_cancel_left, hX] at this
 exact this
set_option maxHeartbeats 2000000 in
theorem Yf (w h : Int) (hs : aa.aW w h = 0) (q : Option Addr) (n c : Nat) (hn : (n : Int) = 4 * w * h) (hcap : n ≤ c) (l : List Int) (hl : l.length = n) (R : ab) (hR : ∀ w0 h, R w0 h → aE (aD 62 .u16) q n l w0 h) (xx yy : Int) (hx : 0 ≤ xx ∧ xx < w) (hy : 0 ≤ yy ∧ yy < h) : aC Tryz.prog 30 [.agg #[.int .i64 w, .int .i64 h, .slice q n c], .int .i64 xx, .int .i64 yy] [R] (aG fun v G => v = .tuple #[.agg (ints .u16 (aa.FL w l xx yy)).toArray, .bool true] ∧ G = [R]) := by
 refine au [(0, _), (1, _), (2, _)] Tryz.func30 rfl Tryz.ntmps30 rfl rfl ?_
 intro w0 F
 have hsd := aa.jj hs
 have hp := aa.tH hx hy
 have h44 : 4 * w * h = 4 * (w * h) := Int.mul_assoc _ _ _
 obtain ⟨c0, c1, c2, c3, hX⟩ := aa.Xo (aa.LQ (w := w) (pix := l) (x := xx) (y := yy) (by omega))
 have hX2 : (l.drop (4 * (yy * w + xx)).toNat).take 4 = [c0, c1, c2, c3] := hX
 refine (Qr)<|(rF) ?_
 intro b3
 refine (ry) ?_
 intro b6
 refine (Q3)<|(ry) ?_
 intro b8
 refine (Q3) ?_
 refine oV (dH V.gn rfl dL (vs := [_, _, _]) rfl rfl)<|aj (sI w h q n c true (decide_eq_true ⟨hs, hn⟩).symm) V.oQ  rfl .nil rfl ?_
 rintro _ _ ⟨rfl, rfl⟩
 refine (Qe) ?_
 refine (Q0) ?_
 refine (QM) ?_
 refine (Qe) ?_
 refine (Q0) ?_
 refine (QM) ?_
 refine (Q8) ?_
 refine (Q0) ?_
 refine (sU) ?_
 refine (Q0) ?_
 refine (oI) ?_
 refine (Q8) ?_
 refine (Q0) ?_
 refine (sU) ?_
 refine (Q0) ?_
 refine (oI) ?_
 refine (Qc) ?_
 refine wN [pz 0 [] [8], pz 0 [] [3], pz 2 [1] [], pz 0 [] [2], pz 0 [] [3], pz 16 [4] [], pz 56 [3, 5] [], pz 0 [] [1], pz 248 [6, 7] [], pz 504 [8] [], pz 1022 [2, 9] [], pz 2047 [0, 10] []] [⟨fun y => ai b8 68 [.int .u16 0, .int .u16 0, .int .u16 0, .int .u16 0], none, some 11, []⟩, ⟨fun y => ai b6 68 [.int .u16 0, .int .u16 0, .int .u16 0, .int .u16 0], none, none, []⟩, ⟨fun y => ai b3 26 [.int .i64 w, .int .i64 h, .slice q n c], none, none, [2, 5]⟩, ⟨fun y => R, none, none, [11]⟩, ⟨fun y => ai b8 68 (CA [] .u16 [c0, c1, c2, c3] []), some 11, none, []⟩] F V.mixed ?_
 refine nV (fun y hA L => vz V.m9 rfl) ?_
 refine nG V.sG ?_
 refine (Iz) ?_
 refine nM ?_
 refine nG V.IX ?_
 refine (Qv) ?_
 refine (OJ) ?_
 refine nM ?_
 refine (Qy) ?_
 refine (OJ) ?_
 refine nV (fun y hA L => dY ((4 * ((yy * w) + xx))).toNat _ _ V.ga rfl ⟨_, (show an _ _ = some (.int _ (4 * ((yy * w) + xx))) from rfl).trans (by rw [Int.toNat_of_nonneg (by omega)])⟩ ⟨rfl, rfl⟩ rfl (by omega) (by omega) (by omega)) ?_
 refine nE (fun y FF hA => xJ (Kk (k := .u16) (T' := 62) (xs := [0, 0, 0, 0]) (ws := [c0, c1, c2, c3]) (cnt := 4) V.ga rfl rfl fR.head (Px rfl (by exact bG hR aA) (4 * (yy * w + xx)).toNat c (by omega) (by omega) hX2) (by omega) rfl) (.refl _)) ?_
 refine (Qb) ?_
 intro y hA
 clear hA
 refine bg<|bD _ (.cons (d := 6) rfl (.cons (d := 8) rfl (.nil _)))<|bb (M := ai b6 68 [.int .u16 0, .int .u16 0, .int .u16 0, .int .u16 0] :: ai b3 26 [.int .i64 w, .int .i64 h, .slice q n c] :: R :: ai b8 68 (CA [] .u16 [c0, c1, c2, c3] []) :: F) (fun _ _ h => h)<|(Qa) ?_
 refine oV (de (v := .agg #[.int .u16 c0, .int .u16 c1, .int .u16 c2, .int .u16 c3]) (vp V.kA rfl ig rfl rfl) rfl)<|(EK)<|(Q8) ?_
 exact ag (dO V.kA rfl aA rfl rfl) ⟨by rw [hX]; rfl, rfl⟩ (sub (.cons bj .nil) my)
set_option maxHeartbeats 2000000 in
theorem OI (w1 h1 : Int) (q1 : Option Addr) (n1 c1 : Nat) (L1 : List Int) (hn1 : L1.length = n1) (R1 : ab) (hR1 : ∀ w0 h, R1 w0 h → aE (aD 62 .u16) q1 n1 L1 w0 h) (w2 h2 : Int) (q2 : Option Addr) (n2 c2 : Nat) (L2 : List Int) (hn2 : L2.length = n2) (R2 : ab) (hR2 : ∀ w0 h, R2 w0 h → aE (aD 62 .u16) q2 n2 L2 w0 h) (hs1 : n1 ≤ 100000000) (t : Bool) (ht : t = decide (aa.jh w1 h1 n1 w2 h2 n2 L1 L2)) : aC Tryz.prog 23 [.agg #[.int .i64 w1, .int .i64 h1, .slice q1 n1 c1], .agg #[.int .i64 w2, .int .i64 h2, .slice q2 n2 c2]] [R1, R2] (aG fun v G => v = .bool t ∧ G = [R1, R2]) := by
 refine au [(0, _), (1, _)] Tryz.func23 rfl Tryz.ntmps23 rfl rfl ?_
 intro w0 F
 refine (Qr)<|(rF) ?_
 intro b2
 refine (rF) ?_
 intro b3
 refine (Qe) ?_
 rcases (aa.Tu w1 h1 n1 w2 h2 n2 L1 L2) with ⟨a, hs⟩ | ⟨a, a2, hs⟩ | ⟨a, a2, a3, hs⟩ | ⟨a, a2, a3, a4, hs⟩ | ⟨a, a2, a3, a4, a5⟩
 ·refine (Q4)<|(qm) ?_
  refine aj (sI w1 h1 q1 n1 c1 false (decide_eq_false a).symm) V.oQ  rfl .nil rfl ?_
  rintro _ _ ⟨rfl, rfl⟩
  refine rO TT 30 rfl ?_
  obtain rfl : t = false := ht.trans (decide_eq_false hs)
  exact ag (aw rfl) ⟨rfl, rfl⟩ (sub (.cons bj (.cons bj .nil)) fS)
 ·refine (Q4)<|(qm)<|(Jd) ?_
  rintro _ _ ⟨rfl, rfl⟩
  refine (Qk)<|(xy)<|(Q0) ?_
  refine aj (sI w2 h2 q2 n2 c2 false (decide_eq_false a2).symm) V.oQ  rfl .nil rfl ?_
  rintro _ _ ⟨rfl, rfl⟩
  refine rO TT 26 rfl ?_
  obtain rfl : t = false := ht.trans (decide_eq_false hs)
  exact ag (aw rfl) ⟨rfl, rfl⟩ (sub (.cons bj (.cons bj .nil)) fS)
 ·refine (Q4)<|(qm)<|(Jd) ?_
  rintro _ _ ⟨rfl, rfl⟩
  refine (Qk)<|(xy)<|(Q0)<|(Nj) ?_
  rintro _ _ ⟨rfl, rfl⟩
  refine (Qz)<|(QU)<|(Q0)<|(FN)<|(Q0)<|(QQ) ?_
  refine oV (cJ (cE rfl rfl) a3)<|rO TT 18 rfl ?_
  obtain rfl : t = false := ht.trans (decide_eq_false hs)
  exact ag (aw rfl) ⟨rfl, rfl⟩ (sub (.cons bj (.cons bj .nil)) fS)
 ·refine (Q4)<|(qm)<|(Jd) ?_
  rintro _ _ ⟨rfl, rfl⟩
  refine (Qk)<|(xy)<|(Q0)<|(Nj) ?_
  rintro _ _ ⟨rfl, rfl⟩
  refine (Qz)<|(QU)<|(Q0)<|(FN)<|(Q0)<|(QQ) ?_
  refine oV (bR (cE rfl rfl) (fun hh => hh a3))<|(Qf)<|(QU)<|(Q0)<|(Ij)<|(Q0)<|(QQ) ?_
  refine oV (cJ (cE rfl rfl) a4)<|(Qs) ?_
  obtain rfl : t = false := ht.trans (decide_eq_false hs)
  exact ag (aw rfl) ⟨rfl, rfl⟩ (sub (.cons bj (.cons bj .nil)) fS)
 ·refine (Q4)<|(qm)<|(Jd) ?_
  rintro _ _ ⟨rfl, rfl⟩
  refine (Qk)<|(xy)<|(Q0)<|(Nj) ?_
  rintro _ _ ⟨rfl, rfl⟩
  refine (Qz)<|(QU)<|(Q0)<|(FN)<|(Q0)<|(QQ) ?_
  refine oV (bR (cE rfl rfl) (fun hh => hh a3))<|(Qf)<|(QU)<|(Q0)<|(Ij)<|(Q0)<|(QQ) ?_
  refine oV (bR (cE rfl rfl) (fun hh => hh a4))<|(Qu) ?_
  refine cB (fun (i : Nat) => [(2, .pointer (some ⟨b2, 0, none⟩)), (3, .pointer (some ⟨b3, 0, none⟩)), (5, .int .i64 (i : Int))]) (fun (i : Nat) => ai b3 26 [.int .i64 w2, .int .i64 h2, .slice q2 n2 c2] :: ai b2 26 [.int .i64 w1, .int .i64 h1, .slice q1 n1 c1] :: R1 :: R2 :: F) (fun (i : Nat) => i ≤ n1 ∧ ∀ j, j < i → L1.getD j 0 = L2.getD j 0) (fun (i : Nat) => n1 - i) (i1 (0) ?_ (fz ln) (sub (mH .nil) ao)) ?_
  ·exact ⟨Nat.zero_le _, fun j hj => by omega⟩
  intro i
  rintro ⟨hi, hall⟩
  refine rL TT 5 rfl<|oV (az V.rz rfl dM rfl)<|(Q8) ?_
  refine aF rfl (fun h32 => ?_) (fun h32 => ?_)
  ·refine (Q5) ?_
   rcases (Classical.em (((aD 62 .u16).g L1 (i : Int)) ≠ ((aD 62 .u16).g L2 (i : Int)))) with hne | hne
   ·refine (Q9)<|(rJ)<|(Ik) ?_
    refine oR (az V.rz rfl dM rfl)<|(vu)<|(VE)<|(Ik) ?_
    refine oR (az V.rz rfl aA rfl)<|(vu)<|(V2) ?_
    refine oR (cJ (cE rfl rfl) hne)<|Rg.df<|rN TT 13 rfl ?_
    obtain rfl : t = false := ht.trans (decide_eq_false (fun hh => aa.Jv hne (by unfold aa.jh at hh; exact hh.2.2.2.2)))
    exact ag (aw rfl) ⟨rfl, rfl⟩ (sub (.cons bj (.cons bj .nil)) fS)
   ·refine (Q9)<|(rJ)<|(Ik) ?_
    refine oR (az V.rz rfl dM rfl)<|(vu)<|(VE)<|(Ik) ?_
    refine oR (az V.rz rfl aA rfl)<|(vu)<|(V2) ?_
    refine oR (bR (cE rfl rfl) hne)<|Rg.df<|OW TT 10 rfl (by omega) ?_
    refine j1 (i + 1) ?_ (fz ln) (sub (mH .nil) ao)
    exact ⟨⟨by omega, fun j hj => (Nat.lt_succ_iff_lt_or_eq.1 hj).elim (hall j) (fun e => e ▸ Classical.not_not.1 hne)⟩, by omega⟩
  ·refine (nS) ?_
   obtain rfl : t = true := ht.trans (decide_eq_true (by unfold aa.jh; exact ⟨a, a2, a3, a4, aa.C1 (by omega) (fun j hj => hall j (by omega))⟩))
   exact ag (aw rfl) ⟨rfl, rfl⟩ (sub (.cons bj (.cons bj .nil)) fS)
set_option maxHeartbeats 1000000 in
theorem D5 (b b4 : Nat) (B : List Int) (out : List Int) (free : Int) (hl : B.length < 500000000) (hB : af.ak B) (j : Nat) (hj : j + 4 ≤ B.length) : aC Tryz.prog 55 [.pointer (some ⟨b4, 0, none⟩)] [HW b B (8 * j) out free, ai b4 105 [.pointer (some ⟨b, 0, none⟩)]] (aG fun v G => v = .int .i64 (aH.cV (B.drop j)) ∧ G = [HW b B (8 * j + 32) out free, ai b4 105 [.pointer (some ⟨b, 0, none⟩)]]) := by
 refine au [(0, _)] Tryz.func55 rfl Tryz.ntmps55 rfl rfl ?_
 intro w0 F
 have h1 := aa.BI B (8 * j)
 have h2 := aa.BI B (8 * j + 16)
 refine (QV) ?_
 refine wN [pz 0 [] [0], pz 1 [0] [], pz 3 [1] [], pz 0 [] [0], pz 11 [3] [], pz 31 [2, 4] [], pz 63 [5] []] [⟨fun y => HW b B (8 * j) out free, none, some 1, []⟩, ⟨fun y => ai b4 105 [.pointer (some ⟨b, 0, none⟩)], none, none, [0, 3]⟩, ⟨fun y => HW b B (8 * j + 16) out free, some 1, some 4, []⟩, ⟨fun y => HW b B (8 * j + 16 + 16) out free, some 4, none, []⟩] F V.mixed ?_
 refine (yK) ?_
 refine nE (fun y FF hA => aX (Post := [HW b B (8 * j + 16) out free]) (jE b B (8 * j) out free 16 hl hB (by decide) (by omega)) V.sV rfl (aq .nil) (fun v G h => by rcases h with ⟨rfl, rfl⟩; exact ⟨rfl, .refl _⟩)) ?_
 refine nV (fun y hA L => gS (r := (aa.bM B (8 * j) 16) * 65536) rfl rfl (by decide) (aH.Hb (n := 16) rfl (by decide) rfl (by omega) (by omega))) ?_
 refine (yK) ?_
 refine nE (fun y FF hA => aX (Post := [HW b B (8 * j + 16 + 16) out free]) (jE b B (8 * j + 16) out free 16 hl hB (by decide) (by omega)) V.sV rfl (aq .nil) (fun v G h => by rcases h with ⟨rfl, rfl⟩; exact ⟨rfl, .refl _⟩)) ?_
 refine nV (fun y hA L => ow (r := (aa.bM B (8 * j) 16) * 65536 + (aa.bM B (8 * j + 16) 16)) rfl rfl (aH.ur (u := (aa.bM B (8 * j) 16)) (n := 16) rfl h1.1 (by omega) (by omega))) ?_
 refine nA ?_
 refine (Qb) ?_
 intro y hA
 clear hA
 refine bg<|bD _ (.cons (d := 1) rfl (.nil _))<|bb (M := ai b4 105 [.pointer (some ⟨b, 0, none⟩)] :: HW b B (8 * j + 16 + 16) out free :: F) (fun _ _ h => h)<|(Q9) ?_
 exact ag (aw rfl) ⟨congrArg (Value.int .i64) (aa.Rj hB j), rfl⟩ (sub (.cons ay (aq .nil)) ao)
set_option maxHeartbeats 4000000 in
theorem PH (p : Option Addr) (c : Nat) (B : List Int) (R : ab) (hR : ∀ w0 h, R w0 h → aE U5 p B.length B w0 h) (hB : af.ak B) : aC Tryz.prog 17 [.slice p B.length c] [R] (aG fun v G => v = .tuple #[HV (aa.Pb B), .int .i64 (aa.eF B)] ∧ G = [R]) := by
 refine au [(0, _)] Tryz.func17 rfl Tryz.ntmps17 rfl rfl ?_
 intro w0 F
 have hb8 := hB.get 8
 have hb9 := hB.get 9
 have hb10 := hB.get 10
 have hb11 := hB.get 11
 have hb12 := hB.get 12
 refine (Qr) ?_
 refine c4 V.ve rfl ?_
 intro b2
 refine (Qe) ?_
 rcases (Classical.em (B.length ≠ 13)) with h0 | h0
 ·refine (Qg)<|(PA)<|(Q3)<|(yG)<|(vi)<|(Q3) ?_
  exact ag (dO V.nQ rfl aA rfl rfl) ⟨by rw [aa.Di h0, aa.oB (aa.Di h0) (by decide)]; rfl, rfl⟩ (sub (.cons ay .nil) bC)
 ·refine (Qg)<|(Al)<|(Qj) ?_
  refine aj (yc p c B R hR (by omega)) V.Ow  rfl (.cons ay .nil) rfl ?_
  rintro _ _ ⟨bx, rfl, rfl⟩
  refine c4 V.z105 rfl ?_
  intro b4
  refine cu (dz V.Pg rfl rfl rfl (by exact fW) (by exact Nat.le_of_ble_eq_true rfl) rfl)<|(Q8) ?_
  refine oV (BA (fs := []) (cs := [_]) rfl rfl)<|(Q8) ?_
  refine jf [pz 0 [] [5], pz 1 [0] [], pz 0 [] [5], pz 7 [2] [], pz 0 [] [4], pz 31 [4] [], pz 0 [] [4], pz 127 [6] [], pz 255 [1, 3, 5, 7] [], pz 0 [] [], pz 1023 [9, 8] []] [⟨fun y => ai b4 105 [.pointer (some ⟨bx, 0, none⟩)], none, none, [1, 3, 4, 6]⟩, ⟨fun y => HW bx B (8 * 0) [] 0, none, some 1, []⟩, ⟨fun y => R, none, none, []⟩, ⟨fun y => ai b2 35 [.int .i64 0, .int .i64 0, .int .i64 0, .int .i64 0, .bool false], none, none, []⟩, ⟨fun y => HW bx B (8 * 4) [] 0, some 1, some 3, []⟩, ⟨fun y => HW bx B (8 * 8) [] 0, some 3, some 5, []⟩, ⟨fun y => HW bx B (8 * 9) [] 0, some 5, some 7, []⟩, ⟨fun y => HW bx B (8 * 10) [] 0, some 7, none, []⟩, ⟨fun y => ai (ek (y 9)) 35 [.int .i64 0, .int .i64 0, .int .i64 0, .int .i64 0, .bool false], some 9, some 10, []⟩, ⟨fun y => ai (ek (y 9)) 35 [.int .i64 (aH.cV B), .int .i64 (aH.cV (B.drop 4)), .int .i64 (B.getD 8 0), .int .i64 (B.getD 9 0), .bool false], some 10, none, []⟩] F V.mixed (by kernel_rfl) rfl (fun _ => .refl _) (aP _ (aP _ (aP _ (aP _ (cK _ rfl (by intro y y2 h; rfl) (cK _ rfl (by intro y y2 h; rfl) (cK _ rfl (by intro y y2 h; rfl) (cK _ rfl (by intro y y2 h; rfl) (cK _ rfl (by intro y y2 h; simp only [h 9 (.inl rfl)]) (cK _ rfl (by intro y y2 h; simp only [h 9 (.inr (by decide))]) eV))))))))))<|nM<|nE (fun y FF hA => kr (vs := []) (fs := []) (cs := [.pointer (some ⟨b4, 0, none⟩)]) (Post := [HW bx B (8 * 4) [] 0, ai b4 105 [.pointer (some ⟨bx, 0, none⟩)]]) (D5 bx b4 B [] 0 (by omega) hB 0 (by omega)) V.UY rfl rfl (aT .nil) (fun v G h => by rcases h with ⟨rfl, rfl⟩; exact ⟨rfl, .refl _⟩))<|nM<|nE (fun y FF hA => kr (vs := []) (fs := []) (cs := [.pointer (some ⟨b4, 0, none⟩)]) (Post := [HW bx B (8 * 8) [] 0, ai b4 105 [.pointer (some ⟨bx, 0, none⟩)]]) (D5 bx b4 B [] 0 (by omega) hB 4 (by omega)) V.UY rfl rfl (aT .nil) (fun v G h => by rcases h with ⟨rfl, rfl⟩; exact ⟨rfl, .refl _⟩))<|(yK) ?_
  refine nE (fun y FF hA => aX (Post := [HW bx B (8 * 9) [] 0]) (jE bx B (8 * 8) [] 0 8 (by omega) hB (by decide) (by omega)) V.sV rfl (aq .nil) (fun v G h => by rcases h with ⟨rfl, rfl⟩; exact ⟨by rw [aa.mr (hB.get 8)], .refl _⟩))<|(yK) ?_
  refine nE (fun y FF hA => aX (Post := [HW bx B (8 * 10) [] 0]) (jE bx B (8 * 9) [] 0 8 (by omega) hB (by decide) (by omega)) V.sV rfl (aq .nil) (fun v G h => by rcases h with ⟨rfl, rfl⟩; exact ⟨by rw [aa.mr (hB.get 9)], .refl _⟩))<|nV (fun y hA L => c5 V.P4 V.ve rfl (cs := [.int .i64 (aH.cV B), .int .i64 (aH.cV (B.drop 4)), .int .i64 (B.getD 8 0), .int .i64 (B.getD 9 0), .bool false]) (by kernel_rfl))<|eK (fun y v => .pointer (some ⟨ek v, 0, none⟩)) (fun y v => True) _ _ (fun y v => [ai (ek v) 35 [.int .i64 0, .int .i64 0, .int .i64 0, .int .i64 0, .bool false]]) _ (fun y => rfl) (fun y => rfl) (fun y => rfl) (fun y => rfl) (fun y FF hA => pO (qG V.ve)) (by intros; rfl) (by intros; rfl) (by intros; rfl) (by intro y y2 h; simp only [h 9 (.inl rfl)]) (by intro y y2 h; rfl)<|nE (fun y FF hA => dE (bd V.nQ rfl rfl (us := [_, _, _, _, _]) rfl rfl (by exact fW) (by exact Nat.le_of_ble_eq_true rfl) rfl) ⟨rfl, .refl _⟩)<|(Qb) ?_
  intro y hA
  clear hA
  refine bg<|bD [(2, .pointer (some ⟨b2, 0, none⟩)), (4, .pointer (some ⟨b4, 0, none⟩)), (6, .pointer (some ⟨(ek (y 9)), 0, none⟩))] (.cons (d := 2) rfl (.cons (d := 4) rfl (.cons (d := 6) rfl (.nil _))))<|bb (M := ai b4 105 [.pointer (some ⟨bx, 0, none⟩)] :: R :: ai b2 35 [.int .i64 0, .int .i64 0, .int .i64 0, .int .i64 0, .bool false] :: HW bx B (8 * 10) [] 0 :: ai (ek (y 9)) 35 [.int .i64 (aH.cV B), .int .i64 (aH.cV (B.drop 4)), .int .i64 (B.getD 8 0), .int .i64 (B.getD 9 0), .bool false] :: F) (fun _ _ h => h) ?_
  generalize (ek (y 9)) = b6
  refine (Q9) ?_
  refine wN [pz 0 [] [4], pz 1 [0] [], pz 0 [] [4], pz 7 [2] [], pz 0 [] [4], pz 31 [4] [], pz 63 [1] [], pz 127 [3] [], pz 255 [5] []] [⟨fun y => ai b4 105 [.pointer (some ⟨bx, 0, none⟩)], none, none, [0, 2, 4]⟩, ⟨fun y => R, none, none, []⟩, ⟨fun y => ai b2 35 [.int .i64 0, .int .i64 0, .int .i64 0, .int .i64 0, .bool false], none, none, []⟩, ⟨fun y => HW bx B (8 * 10) [] 0, none, some 1, []⟩, ⟨fun y => ai b6 35 [.int .i64 (aH.cV B), .int .i64 (aH.cV (B.drop 4)), .int .i64 (B.getD 8 0), .int .i64 (B.getD 9 0), .bool false], none, none, []⟩, ⟨fun y => HW bx B (8 * 11) [] 0, some 1, some 3, []⟩, ⟨fun y => HW bx B (8 * 12) [] 0, some 3, some 5, []⟩, ⟨fun y => HW bx B (8 * 13) [] 0, some 5, none, []⟩] F V.mixed<|(yK) ?_
  refine nE (fun y FF hA => aX (Post := [HW bx B (8 * 11) [] 0]) (jE bx B (8 * 10) [] 0 8 (by omega) hB (by decide) (by omega)) V.sV rfl (aq .nil) (fun v G h => by rcases h with ⟨rfl, rfl⟩; exact ⟨by rw [aa.mr (hB.get 10)], .refl _⟩))<|(yK) ?_
  refine nE (fun y FF hA => aX (Post := [HW bx B (8 * 12) [] 0]) (jE bx B (8 * 11) [] 0 8 (by omega) hB (by decide) (by omega)) V.sV rfl (aq .nil) (fun v G h => by rcases h with ⟨rfl, rfl⟩; exact ⟨by rw [aa.mr (hB.get 11)], .refl _⟩))<|(yK) ?_
  refine nE (fun y FF hA => aX (Post := [HW bx B (8 * 13) [] 0]) (jE bx B (8 * 12) [] 0 8 (by omega) hB (by decide) (by omega)) V.sV rfl (aq .nil) (fun v G h => by rcases h with ⟨rfl, rfl⟩; exact ⟨by rw [aa.mr (hB.get 12)], .refl _⟩)) ?_
  iterate 3 refine nA ?_
  refine (Qb) ?_
  intro y hA
  clear hA
  refine bg<|bD [(2, .pointer (some ⟨b2, 0, none⟩)), (6, .pointer (some ⟨b6, 0, none⟩)), (7, .int .i64 (B.getD 10 0)), (8, .int .i64 (B.getD 11 0)), (9, .int .i64 (B.getD 12 0))] (.cons (d := 2) rfl (.cons (d := 6) rfl (.cons (d := 7) rfl (.cons (d := 8) rfl (.cons (d := 9) rfl (.nil _))))))<|bb (M := ai b4 105 [.pointer (some ⟨bx, 0, none⟩)] :: R :: ai b2 35 [.int .i64 0, .int .i64 0, .int .i64 0, .int .i64 0, .bool false] :: ai b6 35 [.int .i64 (aH.cV B), .int .i64 (aH.cV (B.drop 4)), .int .i64 (B.getD 8 0), .int .i64 (B.getD 9 0), .bool false] :: HW bx B (8 * 13) [] 0 :: F) (fun _ _ h => h)<|(Qg) ?_
  refine cu (dz V.s4 rfl rfl rfl (by exact JA) (by exact Nat.le_of_ble_eq_true rfl) rfl)<|(Q7) ?_
  rcases (aa.YM h0) with ⟨_, a1, hs⟩ | ⟨_, a1, a2, hs⟩ | ⟨_, a1, a2, a3, hs⟩ | ⟨_, a1, a2, a3, a4, hs⟩ | ⟨_, a1, a2, a3, a4, a5, hs⟩ | ⟨_, a1, a2, a3, a4, a5, a6, hs⟩ | ⟨_, a1, a2, a3, a4, a5, a6, hs⟩
  ·refine (Q5)<|(QA)<|(yl)<|(QA) ?_
   refine aj (CQ (B.getD 9 0) (B.getD 8 0) false (decide_eq_false a1).symm) V.U7  rfl .nil rfl ?_
   rintro _ _ ⟨rfl, rfl⟩
   refine rO TT 26 rfl<|(yG)<|(yz)<|(Q3) ?_
   exact ag (dO V.nQ rfl dL rfl rfl) ⟨by rw [hs, aa.oB hs (by decide)]; rfl, rfl⟩ (sub (.cons ay .nil) k6)
  ·refine (Q5)<|(QA)<|(yl)<|(QA)<|(AK) ?_
   rintro _ _ ⟨rfl, rfl⟩
   refine (xC)<|(Q0) ?_
   refine oV (cJ (ed rfl rfl) a2)<|rO TT 20 rfl<|(yG)<|(yz)<|(Q3) ?_
   exact ag (dO V.nQ rfl dL rfl rfl) ⟨by rw [hs, aa.oB hs (by decide)]; rfl, rfl⟩ (sub (.cons ay .nil) k6)
  ·refine (Q5)<|(QA)<|(yl)<|(QA)<|(AK) ?_
   rintro _ _ ⟨rfl, rfl⟩
   refine (xC)<|(Q0)<|(CW)<|(Qf) ?_
   refine oV (cJ (ed rfl rfl) a3)<|rO TT 16 rfl<|(yG)<|(yz)<|(Q3) ?_
   exact ag (dO V.nQ rfl dL rfl rfl) ⟨by rw [hs, aa.oB hs (by decide)]; rfl, rfl⟩ (sub (.cons ay .nil) k6)
  ·refine (Q5)<|(QA)<|(yl)<|(QA)<|(AK) ?_
   rintro _ _ ⟨rfl, rfl⟩
   refine (xC)<|(Q0)<|(CW)<|(Qf)<|(IZ)<|(Qf)<|(QA)<|(Q0) ?_
   refine oV (cJ (da rfl rfl) a4)<|(Qs)<|(yG)<|(yz)<|(Q3) ?_
   exact ag (dO V.nQ rfl dL rfl rfl) ⟨by rw [hs, aa.oB hs (by decide)]; rfl, rfl⟩ (sub (.cons ay .nil) k6)
  ·refine (Q5)<|(QA)<|(yl)<|(QA)<|(AK) ?_
   rintro _ _ ⟨rfl, rfl⟩
   refine (xC)<|(Q0)<|(CW)<|(Qf)<|(IZ)<|(Qf)<|(QA)<|(Q0)<|(H3)<|(Qf)<|(QA)<|(Q0) ?_
   refine oV (cJ (da rfl rfl) a5)<|(Q1)<|(yG)<|(yz)<|(Q3) ?_
   exact ag (dO V.nQ rfl dL rfl rfl) ⟨by rw [hs, aa.oB hs (by decide)]; rfl, rfl⟩ (sub (.cons ay .nil) k6)
  ·refine (Q5)<|(QA)<|(yl)<|(QA)<|(AK) ?_
   rintro _ _ ⟨rfl, rfl⟩
   refine (xC)<|(Q0)<|(CW)<|(Qf)<|(IZ)<|(Qf)<|(QA)<|(Q0)<|(H3)<|(Qf)<|(QA)<|(Q0) ?_
   refine oV (bR (da rfl rfl) a5)<|(Qi)<|(QA) ?_
   refine oV (bp V.sX rfl)<|(Va) ?_
   rintro _ _ ⟨rfl, rfl⟩
   refine oV (cJ (cE rfl rfl) a6)<|(Q3)<|(yG)<|(yz)<|(Q3) ?_
   exact ag (dO V.nQ rfl dL rfl rfl) ⟨by rw [hs, aa.oB hs (by decide)]; rfl, rfl⟩ (sub (.cons ay .nil) k6)
  ·refine (Q5)<|(QA)<|(yl)<|(QA)<|(AK) ?_
   rintro _ _ ⟨rfl, rfl⟩
   refine (xC)<|(Q0)<|(CW)<|(Qf)<|(IZ)<|(Qf)<|(QA)<|(Q0)<|(H3)<|(Qf)<|(QA)<|(Q0) ?_
   refine oV (bR (da rfl rfl) a5)<|(Qi)<|(QA) ?_
   refine oV (bp V.sX rfl)<|(Va) ?_
   rintro _ _ ⟨rfl, rfl⟩
   refine oV (bR (cE rfl rfl) a6)<|(Qc) ?_
   refine oV (dH V.nQ rfl ig (vs := [_, _, _, _, _]) rfl rfl)<|(yz)<|(Q8) ?_
   exact ag (dO V.nQ rfl dL rfl rfl) ⟨by rw [hs, aa.wC hs]; rfl, rfl⟩ (sub (.cons ay .nil) k6)
end Go.Proofs.YtmaiakpjgomnpaaGreat
namespace Go.Proofs.YtmaiakpjgomnpaaGreat
open Go.Sl
theorem V.Ss : gf Tryz.prog 90 = some 9 := by kernel_rfl
theorem V.gD : a7 Tryz.prog 90 0 = some 0 := by kernel_rfl
theorem V.TB : a7 Tryz.prog 90 1 = some 5 := by kernel_rfl
theorem V.sJ : a7 Tryz.prog 90 2 = some 6 := by kernel_rfl
theorem V.Uh : a7 Tryz.prog 90 3 = some 7 := by kernel_rfl
theorem V.IT : a7 Tryz.prog 90 4 = some 8 := by kernel_rfl
theorem V.Il : cm Tryz.prog 90 = some ([.int .i64 0, .int .i64 0, .int .i64 0, .int .i64 0, .bool false, .slice none 0 0, .slice none 0 0, .slice none 0 0, .slice none 0 0]) := by kernel_rfl
end Go.Proofs.YtmaiakpjgomnpaaGreat
namespace Go.Proofs.YtmaiakpjgomnpaaGreat
open Go.Sl 
attribute [local irreducible] af.ak aa.aW aa.up aa.bM aa.fJ aa.D2 aa.deep aa.parts HW aa.ba aa.aN aa.aS aa.aY aa.bQ aa.iB aa.iI aa.mh aa.aR aa.bW
theorem zY {es : List Ce} {i : Nat} {kk : List Int} (hi : i ≤ es.length) (h : ∀ j : Nat, j < i → (aQ.g es (j : Int)).k ≠ kk) : ∀ j, j < i → ∀ c, (es.map Ce.ch)[j]? = some c → c.k ≠ kk := fun j hj c hc => by
 rw [pg (by omega)] at hc
 cases hc
 exact h j hj
theorem wE {es : List Ce} {x : Ce} (hx : x ∈ es) : ∀ w0 h, DK es w0 h → aE U5 x.p x.d.length x.d w0 h := fun w0 h hh => (hh x hx).rd
theorem Gk (R : ab) : ∀ w0 h, R w0 h → aE U5 none 0 [] w0 h := fun _ _ _ => ⟨rfl, rfl, .inl rfl⟩
structure pA where
 pp : Option Addr
 cp : Nat
 P : List Int
 pt : Option Addr
 ct : Nat
 T : List Int
 pd : Option Addr
 cd : Nat
 D : List Int
 hp : Bool
 ht : Bool
def lK (es : List Ce) (i : Nat) (s : pA) : Prop := s.P = aa.kZ ((es.map Ce.ch).take i) aa.aN ∧ s.T = aa.kZ ((es.map Ce.ch).take i) aa.aS ∧ s.D = aa.bW ((es.map Ce.ch).take i) ∧ s.hp = aa.dX ((es.map Ce.ch).take i) aa.aN ∧ s.ht = aa.dX ((es.map Ce.ch).take i) aa.aS ∧ s.P.length ≤ s.cp ∧ s.T.length ≤ s.ct ∧ (∀ w0 h, DK es w0 h → aE U5 s.pp s.P.length s.P w0 h) ∧ ∀ w0 h, DK es w0 h → aE U5 s.pt s.T.length s.T w0 h
theorem Te (es : List Ce) : lK es 0 ⟨none, 0, [], none, 0, [], none, 0, [], false, false⟩ := ⟨rfl, rfl, by unfold aa.bW; rfl, rfl, rfl, Nat.le_refl _, Nat.le_refl _, Gk _, Gk _⟩
section
variable {es : List Ce} {i : Nat} {s : pA} {x : Ce} (hs : lK es i s) (hx : (es.map Ce.ch)[i]? = some x.ch)
include hs hx
theorem SU (hk : x.k = aa.aN) (hm : x ∈ es) (ho : x.d.length ≤ x.c) : lK es (i + 1) { s with pp := x.p, cp := x.c, P := x.d, hp := true } := by
 obtain ⟨h1, h2, h3, h4, h5, h6, h7, h8, h9⟩ := hs
 have hk : x.ch.k = aa.aN := hk
 refine ⟨?_, ?_, ?_, ?_, ?_, ho, h7, wE hm, h9⟩
 ·rw [aa.kl hx, if_pos hk]; rfl
 ·rw [aa.kl hx, if_neg (by rw [hk]; exact aa.Jf)]; exact h2
 ·rw [aa.tX hx, if_neg (by rw [hk]; exact aa.RA)]; exact h3
 ·rw [aa.lu hx, hk]; simp
 ·rw [aa.lu hx, hk, ← h5, beq_false_of_ne aa.Jf, Bool.or_false]
theorem Uk (hk : x.k = aa.aS) (hm : x ∈ es) (ho : x.d.length ≤ x.c) : lK es (i + 1) { s with pt := x.p, ct := x.c, T := x.d, ht := true } := by
 obtain ⟨h1, h2, h3, h4, h5, h6, h7, h8, h9⟩ := hs
 have hk : x.ch.k = aa.aS := hk
 refine ⟨?_, ?_, ?_, ?_, ?_, h6, ho, h8, wE hm⟩
 ·rw [aa.kl hx, if_neg (by rw [hk]; exact aa.Jf.symm)]; exact h1
 ·rw [aa.kl hx, if_pos hk]; rfl
 ·rw [aa.tX hx, if_neg (by rw [hk]; exact aa.Oz)]; exact h3
 ·rw [aa.lu hx, hk, ← h4, beq_false_of_ne aa.Jf.symm, Bool.or_false]
 ·rw [aa.lu hx, hk]; simp
theorem Jr (hk : x.k = aa.ba) (p : Option Addr) (c : Nat) : lK es (i + 1) { s with pd := p, cd := c, D := s.D ++ x.d } := by
 obtain ⟨h1, h2, h3, h4, h5, h6, h7, h8, h9⟩ := hs
 have hk : x.ch.k = aa.ba := hk
 refine ⟨?_, ?_, ?_, ?_, ?_, h6, h7, h8, h9⟩
 ·rw [aa.kl hx, if_neg (by rw [hk]; exact aa.RA.symm)]; exact h1
 ·rw [aa.kl hx, if_neg (by rw [hk]; exact aa.Oz.symm)]; exact h2
 ·rw [aa.tX hx, if_pos hk, ← h3]; rfl
 ·rw [aa.lu hx, hk, ← h4, beq_false_of_ne aa.RA.symm, Bool.or_false]
 ·rw [aa.lu hx, hk, ← h5, beq_false_of_ne aa.Oz.symm, Bool.or_false]
theorem TW (k1 : x.k ≠ aa.aN) (k2 : x.k ≠ aa.aS) (k3 : x.k ≠ aa.ba) : lK es (i + 1) s := by
 obtain ⟨h1, h2, h3, h4, h5, h6, h7, h8, h9⟩ := hs
 have k1 : x.ch.k ≠ aa.aN := k1
 have k2 : x.ch.k ≠ aa.aS := k2
 have k3 : x.ch.k ≠ aa.ba := k3
 refine ⟨?_, ?_, ?_, ?_, ?_, h6, h7, h8, h9⟩
 ·rw [aa.kl hx, if_neg k1]; exact h1
 ·rw [aa.kl hx, if_neg k2]; exact h2
 ·rw [aa.tX hx, if_neg k3]; exact h3
 ·rw [aa.lu hx, ← h4]; simp [k1]
 ·rw [aa.lu hx, ← h5]; simp [k2]
end
set_option maxHeartbeats 1000000 in
theorem Yl (p : Option Addr) (c : Nat) (es : List Ce) (R : ab) (hR : ∀ w0 h, R w0 h → aE aQ p es.length es w0 h) (hel : es.length ≤ 262144) (hok : JR es) (kk : List Int) (hk : af.ak kk) : aC Tryz.prog 45 [.slice p es.length c, .string (strOfNums kk)] [R] (aG fun v G => ∃ q cq, v = .tuple #[.slice q (aa.bu (es.map Ce.ch) kk).length cq, .bool (aa.dX (es.map Ce.ch) kk)] ∧ (∀ w0 h, DK es w0 h → aE U5 q (aa.bu (es.map Ce.ch) kk).length (aa.bu (es.map Ce.ch) kk) w0 h) ∧ G = [R]) := by
 refine au [(0, _), (1, _)] Tryz.func45 rfl Tryz.ntmps45 rfl rfl ?_
 intro w0 F
 refine rT TT 13 rfl ?_
 refine cB (fun (i : Nat) => [(0, .slice p es.length c), (1, .string (strOfNums kk)), (6, .int .i64 (i : Int))]) (fun (i : Nat) => R :: F) (fun (i : Nat) => i ≤ es.length ∧ ∀ j : Nat, j < i → (aQ.g es (j : Int)).k ≠ kk) (fun (i : Nat) => es.length - i) (i1 (0) ?_ (fz ln) (sub (aq .nil) ao)) ?_
 ·exact ⟨Nat.zero_le _, fun j hj => by omega⟩
 intro i
 rintro ⟨hi, hall⟩
 refine rL TT 9 rfl ?_
 refine aF rfl (fun h10 => ?_) (fun h10 => ?_)
 ·refine (Q5) ?_
  rcases (Classical.em ((aQ.g es (i : Int)).k = kk)) with hke | hke
  ·refine (Q9) ?_
   have hcx := pg (es := es) (i := i) (by omega)
   have hxo := mv (i := i) (fun x => af.ak x.k ∧ x.k.length < 500000000) hok (by omega)
   have hxk : af.ak (aQ.g es (i : Int)).k := hxo.1
   have hxm := mv (i := i) (fun x => x ∈ es) (fun x hx => hx) (by omega)
   refine (Q4) ?_
   refine oV (xI V.n5 (by exact bG hR aA))<|oV (bp V.s8 rfl)<|(Vr)<|(Q6) ?_
   refine oV (je (aa.bo hxk) (aa.bo hk) rfl rfl (decide_eq_true hke).symm)<|(Qc) ?_
   refine oV (xI V.n5 (by exact bG hR aA))<|oV (bp V.wu rfl)<|oV (fN (c := (aQ)) 1 V.jU rfl (by exact bG hR aA) (by omega) (by omega) rfl rfl)<|(Qi) ?_
   obtain ⟨e1, e2⟩ := aa.zj hcx hke (zY (by omega) hall)
   rw [e1, e2]
   exact ag (eC rfl rfl) ⟨(aQ.g es (i : Int)).p, (aQ.g es (i : Int)).c, rfl, wE hxm, rfl⟩ (sub (aq .nil) ao)
  ·refine (Q9) ?_
   have hcx := pg (es := es) (i := i) (by omega)
   have hxo := mv (i := i) (fun x => af.ak x.k ∧ x.k.length < 500000000) hok (by omega)
   have hxk : af.ak (aQ.g es (i : Int)).k := hxo.1
   have hxm := mv (i := i) (fun x => x ∈ es) (fun x hx => hx) (by omega)
   refine (Q4) ?_
   refine oV (xI V.n5 (by exact bG hR aA))<|oV (bp V.s8 rfl)<|(Vr)<|(Q6) ?_
   refine oV (je (aa.bo hxk) (aa.bo hk) rfl rfl (decide_eq_false hke).symm)<|(Af) ?_
   refine j1 (i + 1) ?_ (fz ln) (sub (aq .nil) ao)
   exact ⟨⟨by omega, fun j hj => (Nat.lt_succ_iff_lt_or_eq.1 hj).elim (hall j) (fun e => e ▸ hke)⟩, by omega⟩
 ·refine rC TT 12 rfl ?_
  obtain ⟨e1, e2⟩ := aa.xm (k := kk) (L := (es.map Ce.ch)) (by rw [List.length_map]; exact fun j hj => zY hi hall j (by omega))
  rw [e1, e2]
  exact ag (eC rfl rfl) ⟨none, 0, rfl, Gk _, rfl⟩ (sub (aq .nil) ao)
set_option maxHeartbeats 4000000 in
theorem G7 (p : Option Addr) (c : Nat) (es : List Ce) (R : ab) (hR : ∀ w0 h, R w0 h → aE CK p es.length es w0 h) (hel : es.length ≤ 262144) (hok : JR es) (hco : ∀ y ∈ es, A5 y) (hsum : aa.iY (es.map Ce.ch) < 500000000) : aC Tryz.prog 39 [.slice p es.length c] [R, DK es] (aG fun v G => ∃ s : pA, lK es es.length s ∧ v = .tuple #[.agg #[.int .i64 0, .int .i64 0, .int .i64 0, .int .i64 0, .bool false, .slice s.pp s.P.length s.cp, .slice s.pt s.T.length s.ct, .slice s.pd s.D.length s.cd, .slice none 0 0], .bool s.hp, .bool s.ht] ∧ G = [Row U5 s.pd s.D.length s.cd s.D, R, DK es]) := by
 refine au [(0, _)] Tryz.func39 rfl Tryz.ntmps39 rfl rfl ?_
 intro w0 F
 refine (Qr) ?_
 refine c4 V.Il rfl ?_
 intro b2
 refine (Qu)<|(vg) ?_
 refine gl (fun (i : Nat) (s : pA) => [(2, .pointer (some ⟨b2, 0, none⟩)), (3, .bool s.hp), (4, .bool s.ht), (7, .slice p es.length c), (8, .int .i64 (es.length : Int)), (9, .int .i64 (i : Int))]) (fun (i : Nat) (s : pA) => ai b2 90 [.int .i64 0, .int .i64 0, .int .i64 0, .int .i64 0, .bool false, .slice s.pp s.P.length s.cp, .slice s.pt s.T.length s.ct, .slice s.pd s.D.length s.cd, .slice none 0 0] :: Row U5 s.pd s.D.length s.cd s.D :: R :: DK es :: F) (fun (i : Nat) (s : pA) => i ≤ es.length ∧ lK es i s) (fun (i : Nat) (s : pA) => es.length - i) (i2 (0) (⟨none, 0, [], none, 0, [], none, 0, [], false, false⟩) ?_ (jy (bN ln)) (sub (.cons ay (fQ .nil)) ao)) ?_
 ·exact ⟨Nat.zero_le _, Te es⟩
 intro i s
 rintro ⟨hi, hs⟩
 refine (Qm) ?_
 refine aF rfl (fun h10 => ?_) (fun h10 => ?_)
 ·refine (Qg) ?_
  have hcx : (es.map Ce.ch)[i]? = some (CK.g es (i : Int)).ch := pg (es := es) (i := i) (by omega)
  have hxo := mv (i := i) (fun x => af.ak x.k ∧ x.k.length < 500000000) hok (by omega)
  have hxk : af.ak (CK.g es (i : Int)).k := hxo.1
  have hxm : (CK.g es (i : Int)) ∈ es := mv (i := i) (fun x => x ∈ es) (fun x hx => hx) (by omega)
  have hxc : (CK.g es (i : Int)).d.length ≤ (CK.g es (i : Int)).c := hco _ hxm
  refine (Qo) ?_
  refine oV (xI V.rQ (by exact bG hR dL))<|oV (nt (c := (CK)) V.oF rfl (by exact bG hR dL) (by omega) (by omega) rfl)<|(yr) ?_
  intro b6
  refine (rB)<|(Q7) ?_
  rcases ((by by_cases h0 : (CK.g es (i : Int)).k = aa.aN; exact .inl h0; by_cases h1 : (CK.g es (i : Int)).k = aa.aS; exact .inr (.inl ⟨h0, h1⟩); by_cases h2 : (CK.g es (i : Int)).k = aa.ba; exact .inr (.inr (.inl ⟨h0, h1, h2⟩)); exact .inr (.inr (.inr ⟨h0, h1, h2⟩)) : (CK.g es (i : Int)).k = aa.aN ∨ ((CK.g es (i : Int)).k ≠ aa.aN ∧ (CK.g es (i : Int)).k = aa.aS) ∨ ((CK.g es (i : Int)).k ≠ aa.aN ∧ (CK.g es (i : Int)).k ≠ aa.aS ∧ (CK.g es (i : Int)).k = aa.ba) ∨ ((CK.g es (i : Int)).k ≠ aa.aN ∧ (CK.g es (i : Int)).k ≠ aa.aS ∧ (CK.g es (i : Int)).k ≠ aa.ba))) with a0 | ⟨a0, a1⟩ | ⟨a0, a1, a2⟩ | ⟨a0, a1, a2⟩
  ·refine (Q4)<|(rG) ?_
   refine oV (je (aa.bo hxk) (aa.bo aa.qw) rfl (show an _ _ = some (.string (strOfNums aa.aN)) by unfold aa.aN; rfl) (decide_eq_true a0).symm)<|(Q1)<|(vZ) ?_
   refine oV (bp V.TB rfl)<|(U6)<|(tG) ?_
   (exact j2 (i + 1) { s with pp := (CK.g es (i : Int)).p, cp := (CK.g es (i : Int)).c, P := (CK.g es (i : Int)).d, hp := true } ⟨⟨by omega, SU hs hcx a0 hxm hxc⟩, by omega⟩ (jy (bN ln)) (sub (.cons ay (.cons ay (.cons ay (.cons ay .nil)))) bC))
  ·refine (Q4)<|(rG)<|(NX)<|(Q1) ?_
   refine oV (je (aa.bo hxk) (aa.bo aa.qB) rfl (show an _ _ = some (.string (strOfNums aa.aS)) by unfold aa.aS; rfl) (decide_eq_true a1).symm)<|(Q1)<|(vZ) ?_
   refine oV (bp V.sJ rfl)<|(U6)<|(tG) ?_
   (exact j2 (i + 1) { s with pt := (CK.g es (i : Int)).p, ct := (CK.g es (i : Int)).c, T := (CK.g es (i : Int)).d, ht := true } ⟨⟨by omega, Uk hs hcx a1 hxm hxc⟩, by omega⟩ (jy (bN ln)) (sub (.cons ay (.cons ay (.cons ay (.cons ay .nil)))) bC))
  ·refine (Q4)<|(rG)<|(NX)<|(Q1)<|(Wo)<|(Q1) ?_
   refine oV (je (aa.bo hxk) (aa.bo aa.qR) rfl (show an _ _ = some (.string (strOfNums aa.ba)) by unfold aa.ba; rfl) (decide_eq_true a2).symm)<|(Q8) ?_
   have hd1 := aa.nH ((es.map Ce.ch).take (i + 1))
   have hd2 := aa.yO (es.map Ce.ch) (i + 1)
   rw [← (Jr hs hcx a2 none 0).2.2.1] at hd1
   have hd3 : (s.D ++ (CK.g es (i : Int)).d).length = s.D.length + (CK.g es (i : Int)).d.length := List.length_append
   have hd4 : s.D.length + (CK.g es (i : Int)).d.length < 500000000 := by rw [← hd3]; exact Nat.lt_of_le_of_lt hd1 (by omega)
   refine (Qa)<|(vo)<|(pe)<|(vZ) ?_
   refine ff (c := (U5)) V.bK V.z5 rfl rfl rfl rfl bj (XX (f := Vn) jB hxm) (by omega) rfl ?_
   intro p31 c31
   refine oV (bp V.Uh rfl)<|(Ws)<|(QG) ?_
   (rw [← List.length_append]; exact j2 (i + 1) { s with pd := p31, cd := c31, D := s.D ++ (CK.g es (i : Int)).d } ⟨⟨by omega, Jr hs hcx a2 _ _⟩, by omega⟩ (jy (bN ln)) (sub (.cons bj (aq (.cons ay (.cons ay .nil)))) bC))
  ·refine (Q4)<|(rG)<|(NX)<|(Q1)<|(Wo)<|(Q1) ?_
   refine oV (je (aa.bo hxk) (aa.bo aa.qR) rfl (show an _ _ = some (.string (strOfNums aa.ba)) by unfold aa.ba; rfl) (decide_eq_false a2).symm)<|(Ah) ?_
   (exact j2 (i + 1) s ⟨⟨by omega, TW hs hcx a0 a1 a2⟩, by omega⟩ (jy (bN ln)) (sub (.cons ay (.cons ay (.cons ay (.cons ay .nil)))) bC))
 ·refine (Qd) ?_
  obtain rfl : i = es.length := by omega
  refine (Qo) ?_
  refine oV (dH V.Ss rfl aA (vs := [_, _, _, _, _, _, _, _, _]) rfl rfl)<|(Q7)<|(JT)<|(Q3) ?_
  exact ag (oA V.Ss rfl aA rfl rfl rfl) ⟨s, hs, rfl, rfl⟩ (sub (.cons ay (.cons ay (.cons ay .nil))) bC)
set_option maxHeartbeats 2000000 in
theorem DW (h : aa.Hd) (hd : aa.iy h.dep) (bf : Nat) (pp : Option Addr) (pl : List Int) (cp : Nat) (pt : Option Addr) (tr : List Int) (ct : Nat) (pd : Option Addr) (nd cd : Nat) (pk : Option Addr) (nk ck : Nat) (hl : pl.length < 500000000) (t : Bool) (ht : t = decide (aa.iB h pl false)) : aC Tryz.prog 40 [.pointer (some ⟨bf, 0, none⟩), .bool false] [ai bf 90 [.int .i64 h.w, .int .i64 h.h, .int .i64 h.dep, .int .i64 h.ar, .bool h.aZ, .slice pp pl.length cp, .slice pt tr.length ct, .slice pd nd cd, .slice pk nk ck]] (aG fun v G => v = .bool t ∧ G = [ai bf 90 [.int .i64 h.w, .int .i64 h.h, .int .i64 h.dep, .int .i64 h.ar, .bool h.aZ, .slice pp pl.length cp, .slice pt tr.length ct, .slice pd nd cd, .slice pk nk ck]]) := by
 refine au [(0, _), (1, _)] Tryz.func40 rfl Tryz.ntmps40 rfl rfl ?_
 intro w0 F
 obtain ⟨P, hP⟩ : ∃ P : Int, P = 2 ^ h.dep.toNat := ⟨_, rfl⟩
 have hpb : 2 ≤ P ∧ P ≤ 65536 := hP ▸ aa.lO hd
 have hdi := aa.iU hd
 refine rT TT 10 rfl<|(vZ) ?_
 refine rO TT 20 rfl<|(Ql)<|(Qc) ?_
 obtain rfl : t = decide (h.ar ≠ 3) := ht.trans (decide_eq_decide.2 (aa.PJ h pl))
 exact ag (aw rfl) ⟨rfl, rfl⟩ (sub (aq .nil) ao)
set_option maxHeartbeats 2000000 in
theorem EP (h : aa.Hd) (hd : aa.iy h.dep) (bf : Nat) (pp : Option Addr) (pl : List Int) (cp : Nat) (pt : Option Addr) (tr : List Int) (ct : Nat) (pd : Option Addr) (nd cd : Nat) (pk : Option Addr) (nk ck : Nat) (hl : pl.length < 500000000) (t : Bool) (ht : t = decide (aa.iB h pl true)) : aC Tryz.prog 40 [.pointer (some ⟨bf, 0, none⟩), .bool true] [ai bf 90 [.int .i64 h.w, .int .i64 h.h, .int .i64 h.dep, .int .i64 h.ar, .bool h.aZ, .slice pp pl.length cp, .slice pt tr.length ct, .slice pd nd cd, .slice pk nk ck]] (aG fun v G => v = .bool t ∧ G = [ai bf 90 [.int .i64 h.w, .int .i64 h.h, .int .i64 h.dep, .int .i64 h.ar, .bool h.aZ, .slice pp pl.length cp, .slice pt tr.length ct, .slice pd nd cd, .slice pk nk ck]]) := by
 refine au [(0, _), (1, _)] Tryz.func40 rfl Tryz.ntmps40 rfl rfl ?_
 intro w0 F
 obtain ⟨P, hP⟩ : ∃ P : Int, P = 2 ^ h.dep.toNat := ⟨_, rfl⟩
 have hpb : 2 ≤ P ∧ P ≤ 65536 := hP ▸ aa.lO hd
 have hdi := aa.iU hd
 refine rT TT 10 rfl<|(vZ)<|(Q1) ?_
 rcases (aa.NK (plte := pl) hP) with ⟨a1, a⟩ | ⟨a1, a2, a⟩ | ⟨a1, a2, a3, a4, a⟩ | ⟨a1, a2, a3, a4, a⟩ | ⟨a1, a2, a3, a⟩
 ·refine rC TT 14 rfl<|(Ql)<|(PF) ?_
  refine rO TT 20 rfl ?_
  obtain rfl : t = false := ht.trans (decide_eq_false a)
  exact ag (aw rfl) ⟨rfl, rfl⟩ (sub (aq .nil) ao)
 ·refine rC TT 14 rfl<|(Ql)<|(o6)<|(QZ)<|(QQ)<|(JO)<|(Qu) ?_
  obtain rfl : t = false := ht.trans (decide_eq_false a)
  exact ag (aw rfl) ⟨rfl, rfl⟩ (sub (aq .nil) ao)
 ·refine rC TT 14 rfl<|(Ql)<|(o6)<|(QZ)<|(QQ)<|(yw)<|(Qs)<|(Ql) ?_
  refine oV (cJ (da rfl rfl) a3)<|(Qk)<|(pT)<|(Qz)<|(QQ)<|(Dk)<|(Q0) ?_
  refine oV (cJ (ed rfl rfl) a4)<|(Qu) ?_
  obtain rfl : t = false := ht.trans (decide_eq_false a)
  exact ag (aw rfl) ⟨rfl, rfl⟩ (sub (aq .nil) ao)
 ·refine rC TT 14 rfl<|(Ql)<|(o6)<|(QZ)<|(QQ)<|(yw)<|(Qs)<|(Ql) ?_
  refine oV (cJ (da rfl rfl) a3)<|(Qk)<|(pT)<|(Qz)<|(QQ)<|(Dk)<|(Q0) ?_
  refine oV (bR (ed rfl rfl) a4)<|(Qj) ?_
  rcases (aa.Nu pl.length) with c1 | ⟨c1, c2⟩ | ⟨c1, c2⟩
  ·refine (Q4)<|(AY)<|(QC)<|(Qu) ?_
   (obtain rfl : t = false := ht.trans (decide_eq_false (fun q => by have := a.1 q; omega)); exact ag (G := [ai bf 90 [.int .i64 h.w, .int .i64 h.h, .int .i64 h.dep, .int .i64 h.ar, .bool h.aZ, .slice pp pl.length cp, .slice pt tr.length ct, .slice pd nd cd, .slice pk nk ck]]) (aw rfl) ⟨rfl, rfl⟩ (sub (aq .nil) ao))
  ·refine (Q4) ?_
   refine (AY) ?_
   refine (QD) ?_
   refine (Q7) ?_
   refine (Q0) ?_
   refine (Qq) ?_
   refine (Qi) ?_
   (obtain rfl : t = false := ht.trans (decide_eq_false (fun q => by have := a.1 q; omega)); exact ag (G := [ai bf 90 [.int .i64 h.w, .int .i64 h.h, .int .i64 h.dep, .int .i64 h.ar, .bool h.aZ, .slice pp pl.length cp, .slice pt tr.length ct, .slice pd nd cd, .slice pk nk ck]]) (aw rfl) ⟨rfl, rfl⟩ (sub (aq .nil) ao))
  ·refine (Q4) ?_
   refine (AY) ?_
   refine (QD) ?_
   refine (Q7) ?_
   refine (Q0) ?_
   refine (Qt) ?_
   refine (Qe) ?_
   refine (Q0) ?_
   refine (pT) ?_
   refine (Q1) ?_
   (obtain rfl : t = decide ((pl.length : Int) / 3 ≤ 256) := ht.trans (decide_eq_decide.2 (a.trans (by omega))); exact ag (G := [ai bf 90 [.int .i64 h.w, .int .i64 h.h, .int .i64 h.dep, .int .i64 h.ar, .bool h.aZ, .slice pp pl.length cp, .slice pt tr.length ct, .slice pd nd cd, .slice pk nk ck]]) (aw rfl) ⟨rfl, rfl⟩ (sub (aq .nil) ao))
 ·refine rC TT 14 rfl<|(Ql)<|(o6)<|(QZ)<|(QQ)<|(yw)<|(Qs)<|(Ql) ?_
  refine oV (bR (da rfl rfl) a3)<|rO TT 18 rfl ?_
  rcases (aa.Nu pl.length) with c1 | ⟨c1, c2⟩ | ⟨c1, c2⟩
  ·refine (Q4)<|(AY)<|(QC)<|(Qu) ?_
   (obtain rfl : t = false := ht.trans (decide_eq_false (fun q => by have := a.1 q; omega)); exact ag (G := [ai bf 90 [.int .i64 h.w, .int .i64 h.h, .int .i64 h.dep, .int .i64 h.ar, .bool h.aZ, .slice pp pl.length cp, .slice pt tr.length ct, .slice pd nd cd, .slice pk nk ck]]) (aw rfl) ⟨rfl, rfl⟩ (sub (aq .nil) ao))
  ·refine (Q4) ?_
   refine (AY) ?_
   refine (QD) ?_
   refine (Q7) ?_
   refine (Q0) ?_
   refine (Qq) ?_
   refine (Qi) ?_
   (obtain rfl : t = false := ht.trans (decide_eq_false (fun q => by have := a.1 q; omega)); exact ag (G := [ai bf 90 [.int .i64 h.w, .int .i64 h.h, .int .i64 h.dep, .int .i64 h.ar, .bool h.aZ, .slice pp pl.length cp, .slice pt tr.length ct, .slice pd nd cd, .slice pk nk ck]]) (aw rfl) ⟨rfl, rfl⟩ (sub (aq .nil) ao))
  ·refine (Q4) ?_
   refine (AY) ?_
   refine (QD) ?_
   refine (Q7) ?_
   refine (Q0) ?_
   refine (Qt) ?_
   refine (Qe) ?_
   refine (Q0) ?_
   refine (pT) ?_
   refine (Q1) ?_
   (obtain rfl : t = decide ((pl.length : Int) / 3 ≤ 256) := ht.trans (decide_eq_decide.2 (a.trans (by omega))); exact ag (G := [ai bf 90 [.int .i64 h.w, .int .i64 h.h, .int .i64 h.dep, .int .i64 h.ar, .bool h.aZ, .slice pp pl.length cp, .slice pt tr.length ct, .slice pd nd cd, .slice pk nk ck]]) (aw rfl) ⟨rfl, rfl⟩ (sub (aq .nil) ao))
set_option maxHeartbeats 1000000 in
theorem Cn (h : aa.Hd) (hd : aa.iy h.dep) (bf : Nat) (pp : Option Addr) (pl : List Int) (cp : Nat) (pt : Option Addr) (tr : List Int) (ct : Nat) (pd : Option Addr) (nd cd : Nat) (hpl : pl.length < 500000000) (htr : tr = []) (htl : tr.length < 500000000) (hB : af.ak tr) (t : Bool) (ht : t = true) : aC Tryz.prog 41 [.pointer (some ⟨bf, 0, none⟩), .bool false] [ai bf 90 [.int .i64 h.w, .int .i64 h.h, .int .i64 h.dep, .int .i64 h.ar, .bool h.aZ, .slice pp pl.length cp, .slice pt tr.length ct, .slice pd nd cd, .slice none 0 0]] (aG fun v G => ∃ pk nk ck K, (t = true → K = aa.aR h tr) ∧ K.length = nk ∧ v = .bool t ∧ G = [ai bf 90 [.int .i64 h.w, .int .i64 h.h, .int .i64 h.dep, .int .i64 h.ar, .bool h.aZ, .slice pp pl.length cp, .slice pt tr.length ct, .slice pd nd cd, .slice pk nk ck], Row (aD 3 .i64) pk nk ck K]) := by
 refine au [(0, _), (1, _)] Tryz.func41 rfl Tryz.ntmps41 rfl rfl ?_
 intro w0 F
 refine rT TT 20 rfl ?_
 subst ht
 exact ag (aw rfl) ⟨none, 0, 0, [], (fun _ => by rw [htr, aa.Lt]), rfl, rfl, rfl⟩ ((cZ (A := Row (aD 3 .i64) none 0 0 []) (fun w0 => Row.nil _ _ _)).trans (sub (.cons ay (aq .nil)) ao))
set_option maxHeartbeats 4000000 in
theorem BK (h : aa.Hd) (hd : aa.iy h.dep) (bf : Nat) (pp : Option Addr) (pl : List Int) (cp : Nat) (pt : Option Addr) (tr : List Int) (ct : Nat) (pd : Option Addr) (nd cd : Nat) (hpl : pl.length < 500000000) (htl : tr.length < 500000000) (hB : af.ak tr) (R : ab) (hR : ∀ w0 h, R w0 h → aE U5 pt tr.length tr w0 h) (t : Bool) (ht : t = decide (aa.iI h pl tr true)) : aC Tryz.prog 41 [.pointer (some ⟨bf, 0, none⟩), .bool true] [ai bf 90 [.int .i64 h.w, .int .i64 h.h, .int .i64 h.dep, .int .i64 h.ar, .bool h.aZ, .slice pp pl.length cp, .slice pt tr.length ct, .slice pd nd cd, .slice none 0 0], R] (aG fun v G => ∃ pk nk ck K, (t = true → K = aa.aR h tr) ∧ K.length = nk ∧ v = .bool t ∧ G = [ai bf 90 [.int .i64 h.w, .int .i64 h.h, .int .i64 h.dep, .int .i64 h.ar, .bool h.aZ, .slice pp pl.length cp, .slice pt tr.length ct, .slice pd nd cd, .slice pk nk ck], Row (aD 3 .i64) pk nk ck K, R]) := by
 refine au [(0, _), (1, _)] Tryz.func41 rfl Tryz.ntmps41 rfl rfl ?_
 intro w0 F
 obtain ⟨P, hP⟩ : ∃ P : Int, P = 2 ^ h.dep.toNat := ⟨_, rfl⟩
 have hpb : 2 ≤ P ∧ P ≤ 65536 := hP ▸ aa.lO hd
 have hdi := aa.iU hd
 refine rT TT 15 rfl ?_
 refine kP (fun (u : Unit) => [(0, .pointer (some ⟨bf, 0, none⟩))]) (fun (u : Unit) => ai bf 90 [.int .i64 h.w, .int .i64 h.h, .int .i64 h.dep, .int .i64 h.ar, .bool h.aZ, .slice pp pl.length cp, .slice pt tr.length ct, .slice pd nd cd, .slice none 0 0] :: R :: F) (fun (u : Unit) => (h.ar = 0 ∨ h.ar = 2) ∧ tr.length = 2 * (aa.parts h.ar).toNat ∧ 1 ≤ aa.parts h.ar ∧ aa.parts h.ar ≤ 3 ∧ aa.iI h pl tr true) ?_ ?_
 ·rcases (aa.SM h pl tr) with ⟨a1, a⟩ | ⟨a1, a2, a3, a⟩ | ⟨a1, a2, a3, a⟩ | ⟨a1, a2, a4, a3, a⟩ | ⟨a1, a2, a4, a3, a⟩ | ⟨a1, a2, a4, a⟩
  ·refine (Qm)<|(Ql)<|(Q3)<|(PF)<|(Q3)<|(rJ) ?_
   refine rR TT 3 rfl<|(zZ) ?_
   refine rR TT 4 rfl<|(zZ) ?_
   refine oR (jY (ty' := 0) Tryz.underlying22 rfl)<|oR (ji rfl rfl (by omega) (rS (by omega) (by omega) (by omega)))<|rR TT 2 rfl<|Rg.df<|rN TT 4 rfl ?_
   obtain rfl : t = decide ((tr.length : Int) ≤ (pl.length : Int) / 3) := ht.trans (decide_eq_decide.2 (a.trans (by omega)))
   exact ag (aw rfl) ⟨none, 0, 0, [], (fun _ => by rw [aa.TE (by omega)]), rfl, rfl, rfl⟩ ((cZ (A := Row (aD 3 .i64) none 0 0 []) (fun w0 => Row.nil _ _ _)).trans (sub (.cons ay (aT .nil)) ao))
  ·refine (Qm)<|(Ql)<|(Q3)<|(o6)<|(Qc)<|(JO)<|(Qj) ?_
   have hpp : aa.parts h.ar = 1 := by rw [a2]; unfold aa.parts; rfl
   refine wN [pz 0 [] [0], pz 1 [0] [], pz 3 [1] [], pz 7 [2] [], pz 15 [3] [], pz 0 [] [0], pz 32 [5] [], pz 96 [6] [], pz 224 [7] [], pz 480 [8] [], pz 992 [9] [], pz 2016 [10] [], pz 4095 [4, 11] []] [⟨fun y => ai bf 90 [.int .i64 h.w, .int .i64 h.h, .int .i64 h.dep, .int .i64 h.ar, .bool h.aZ, .slice pp pl.length cp, .slice pt tr.length ct, .slice pd nd cd, .slice none 0 0], none, none, [3, 9]⟩, ⟨fun y => R, none, none, []⟩] F V.mixed ?_
   refine nM ?_
   refine nN ?_
   refine nG V.sJ ?_
   refine nR (fun y FF hA => az V.jU rfl aA rfl) ?_
   refine nV (fun y hA L => jY (ty' := 0) Tryz.underlying22 rfl) ?_
   refine nM ?_
   refine nN ?_
   refine nG V.gD ?_
   refine nG V.qN ?_
   refine nR (fun y FF hA => az V.s3 rfl aA rfl) ?_
   refine nE (fun y FF hA => aX (Post := []) (iu h.ar) V.kn rfl .nil (fun v G h => by rcases h with ⟨rfl, rfl⟩; exact ⟨rfl, .refl _⟩)) ?_
   refine nV (fun y hA L => fP rfl rfl wI) ?_
   refine nV (fun y hA L => cJ (cE rfl rfl) (by omega)) ?_
   refine cN ?_
   intro y hA
   clear hA
   refine bg ?_
   refine bD _ (.cons (d := 0) rfl (.cons (d := 42) rfl (.nil _))) ?_
   refine bb (M := ai bf 90 [.int .i64 h.w, .int .i64 h.h, .int .i64 h.dep, .int .i64 h.ar, .bool h.aZ, .slice pp pl.length cp, .slice pt tr.length ct, .slice pd nd cd, .slice none 0 0] :: R :: F) (fun _ _ h => h) ?_
   refine rC TT 9 rfl ?_
   obtain rfl : t = false := ht.trans (decide_eq_false a)
   exact ag (aw rfl) ⟨none, 0, 0, [], (fun q => by cases q), rfl, rfl, rfl⟩ ((cZ (A := Row (aD 3 .i64) none 0 0 []) (fun w0 => Row.nil _ _ _)).trans (sub (.cons ay (aT .nil)) ao))
  ·refine (Qm)<|(Ql)<|(Q3)<|(o6)<|(Qc)<|(JO)<|(Qj) ?_
   have hpp : aa.parts h.ar = 1 := by rw [a2]; unfold aa.parts; rfl
   have hc2 : h.ar = 0 ∨ h.ar = 2 := .inl a2
   refine wN [pz 0 [] [0], pz 1 [0] [], pz 3 [1] [], pz 7 [2] [], pz 15 [3] [], pz 0 [] [0], pz 32 [5] [], pz 96 [6] [], pz 224 [7] [], pz 480 [8] [], pz 992 [9] [], pz 2016 [10] [], pz 4095 [4, 11] []] [⟨fun y => ai bf 90 [.int .i64 h.w, .int .i64 h.h, .int .i64 h.dep, .int .i64 h.ar, .bool h.aZ, .slice pp pl.length cp, .slice pt tr.length ct, .slice pd nd cd, .slice none 0 0], none, none, [3, 9]⟩, ⟨fun y => R, none, none, []⟩] F V.mixed ?_
   refine nM ?_
   refine nN ?_
   refine nG V.sJ ?_
   refine nR (fun y FF hA => az V.jU rfl aA rfl) ?_
   refine nV (fun y hA L => jY (ty' := 0) Tryz.underlying22 rfl) ?_
   refine nM ?_
   refine nN ?_
   refine nG V.gD ?_
   refine nG V.qN ?_
   refine nR (fun y FF hA => az V.s3 rfl aA rfl) ?_
   refine nE (fun y FF hA => aX (Post := []) (iu h.ar) V.kn rfl .nil (fun v G h => by rcases h with ⟨rfl, rfl⟩; exact ⟨rfl, .refl _⟩)) ?_
   refine nV (fun y hA L => fP rfl rfl wI) ?_
   refine nV (fun y hA L => bR (cE rfl rfl) (by omega)) ?_
   refine cN ?_
   intro y hA
   clear hA
   refine bg ?_
   refine bD _ (.cons (d := 0) rfl (.cons (d := 42) rfl (.nil _))) ?_
   refine bb (M := ai bf 90 [.int .i64 h.w, .int .i64 h.h, .int .i64 h.dep, .int .i64 h.ar, .bool h.aZ, .slice pp pl.length cp, .slice pt tr.length ct, .slice pd nd cd, .slice none 0 0] :: R :: F) (fun _ _ h => h) ?_
   refine rC TT 3 rfl ?_
   refine j1 (()) ?_ (jy ln) (sub (aT .nil) ao)
   exact ⟨hc2, by omega, by omega, by omega, a⟩
  ·refine (Qm)<|(Ql)<|(Q3)<|(o6)<|(Qc)<|(yw)<|(Q3) ?_
   refine oV (cJ (da rfl rfl) a4)<|(Q3) ?_
   have hpp : aa.parts h.ar = 3 := by rw [a4]; unfold aa.parts; rfl
   refine wN [pz 0 [] [0], pz 1 [0] [], pz 3 [1] [], pz 7 [2] [], pz 15 [3] [], pz 0 [] [0], pz 32 [5] [], pz 96 [6] [], pz 224 [7] [], pz 480 [8] [], pz 992 [9] [], pz 2016 [10] [], pz 4095 [4, 11] []] [⟨fun y => ai bf 90 [.int .i64 h.w, .int .i64 h.h, .int .i64 h.dep, .int .i64 h.ar, .bool h.aZ, .slice pp pl.length cp, .slice pt tr.length ct, .slice pd nd cd, .slice none 0 0], none, none, [3, 9]⟩, ⟨fun y => R, none, none, []⟩] F V.mixed ?_
   refine nM ?_
   refine nN ?_
   refine nG V.sJ ?_
   refine nR (fun y FF hA => az V.jU rfl aA rfl) ?_
   refine nV (fun y hA L => jY (ty' := 0) Tryz.underlying22 rfl) ?_
   refine nM ?_
   refine nN ?_
   refine nG V.gD ?_
   refine nG V.qN ?_
   refine nR (fun y FF hA => az V.s3 rfl aA rfl) ?_
   refine nE (fun y FF hA => aX (Post := []) (iu h.ar) V.kn rfl .nil (fun v G h => by rcases h with ⟨rfl, rfl⟩; exact ⟨rfl, .refl _⟩)) ?_
   refine nV (fun y hA L => fP rfl rfl wI) ?_
   refine nV (fun y hA L => cJ (cE rfl rfl) (by omega)) ?_
   refine cN ?_
   intro y hA
   clear hA
   refine bg ?_
   refine bD _ (.cons (d := 0) rfl (.cons (d := 42) rfl (.nil _))) ?_
   refine bb (M := ai bf 90 [.int .i64 h.w, .int .i64 h.h, .int .i64 h.dep, .int .i64 h.ar, .bool h.aZ, .slice pp pl.length cp, .slice pt tr.length ct, .slice pd nd cd, .slice none 0 0] :: R :: F) (fun _ _ h => h) ?_
   refine rC TT 9 rfl ?_
   obtain rfl : t = false := ht.trans (decide_eq_false a)
   exact ag (aw rfl) ⟨none, 0, 0, [], (fun q => by cases q), rfl, rfl, rfl⟩ ((cZ (A := Row (aD 3 .i64) none 0 0 []) (fun w0 => Row.nil _ _ _)).trans (sub (.cons ay (aT .nil)) ao))
  ·refine (Qm)<|(Ql)<|(Q3)<|(o6)<|(Qc)<|(yw)<|(Q3) ?_
   refine oV (cJ (da rfl rfl) a4)<|(Q3) ?_
   have hpp : aa.parts h.ar = 3 := by rw [a4]; unfold aa.parts; rfl
   have hc2 : h.ar = 0 ∨ h.ar = 2 := .inr a4
   refine wN [pz 0 [] [0], pz 1 [0] [], pz 3 [1] [], pz 7 [2] [], pz 15 [3] [], pz 0 [] [0], pz 32 [5] [], pz 96 [6] [], pz 224 [7] [], pz 480 [8] [], pz 992 [9] [], pz 2016 [10] [], pz 4095 [4, 11] []] [⟨fun y => ai bf 90 [.int .i64 h.w, .int .i64 h.h, .int .i64 h.dep, .int .i64 h.ar, .bool h.aZ, .slice pp pl.length cp, .slice pt tr.length ct, .slice pd nd cd, .slice none 0 0], none, none, [3, 9]⟩, ⟨fun y => R, none, none, []⟩] F V.mixed ?_
   refine nM ?_
   refine nN ?_
   refine nG V.sJ ?_
   refine nR (fun y FF hA => az V.jU rfl aA rfl) ?_
   refine nV (fun y hA L => jY (ty' := 0) Tryz.underlying22 rfl) ?_
   refine nM ?_
   refine nN ?_
   refine nG V.gD ?_
   refine nG V.qN ?_
   refine nR (fun y FF hA => az V.s3 rfl aA rfl) ?_
   refine nE (fun y FF hA => aX (Post := []) (iu h.ar) V.kn rfl .nil (fun v G h => by rcases h with ⟨rfl, rfl⟩; exact ⟨rfl, .refl _⟩)) ?_
   refine nV (fun y hA L => fP rfl rfl wI) ?_
   refine nV (fun y hA L => bR (cE rfl rfl) (by omega)) ?_
   refine cN ?_
   intro y hA
   clear hA
   refine bg ?_
   refine bD _ (.cons (d := 0) rfl (.cons (d := 42) rfl (.nil _))) ?_
   refine bb (M := ai bf 90 [.int .i64 h.w, .int .i64 h.h, .int .i64 h.dep, .int .i64 h.ar, .bool h.aZ, .slice pp pl.length cp, .slice pt tr.length ct, .slice pd nd cd, .slice none 0 0] :: R :: F) (fun _ _ h => h) ?_
   refine rC TT 3 rfl ?_
   refine j1 (()) ?_ (jy ln) (sub (aT .nil) ao)
   exact ⟨hc2, by omega, by omega, by omega, a⟩
  ·refine (Qm)<|(Ql)<|(Q3)<|(o6)<|(Qc)<|(yw)<|(Q3)<|(H3)<|(QL) ?_
   obtain rfl : t = false := ht.trans (decide_eq_false a)
   exact ag (aw rfl) ⟨none, 0, 0, [], (fun q => by cases q), rfl, rfl, rfl⟩ ((cZ (A := Row (aD 3 .i64) none 0 0 []) (fun w0 => Row.nil _ _ _)).trans (sub (.cons ay (aT .nil)) ao))
 ·intro u
  rintro ⟨hc2, htp, hp1, hp3, hC⟩
  refine (Qg)<|(vZ) ?_
  refine aj (yc pt ct tr R hR htl) V.Ow  rfl (.cons ay .nil) rfl ?_
  rintro _ _ ⟨bx, rfl, rfl⟩
  refine (Qi)<|(sU) ?_
  refine aj (iu h.ar) V.kn  rfl .nil rfl ?_
  rintro _ _ ⟨rfl, rfl⟩
  refine (Q8) ?_
  refine jk (Row (aD 3 .i64) none 0 0 []) (Row.nil _ _ _) ?_
  rw [show ([] : List Int) = (aa.aR h tr).take 0 from rfl]
  refine gM (fun (k : Nat) (pk : Option Addr) (ck : Nat) => [(0, .pointer (some ⟨bf, 0, none⟩)), (5, .pointer (some ⟨bx, 0, none⟩)), (53, .int .i64 (aa.parts h.ar)), (54, .int .i64 (k : Int))]) (fun (k : Nat) (pk : Option Addr) (ck : Nat) => ai bf 90 [.int .i64 h.w, .int .i64 h.h, .int .i64 h.dep, .int .i64 h.ar, .bool h.aZ, .slice pp pl.length cp, .slice pt tr.length ct, .slice pd nd cd, .slice pk k ck] :: Row (aD 3 .i64) pk k ck ((aa.aR h tr).take k) :: HW bx tr (16 * k) [] 0 :: R :: F) (fun (k : Nat) (pk : Option Addr) (ck : Nat) => (k : Int) ≤ aa.parts h.ar) (fun (k : Nat) (pk : Option Addr) (ck : Nat) => (aa.parts h.ar).toNat - k) (i3 (0) (none) (0) ?_ (eQ ln) (sub (.cons dw (fQ .nil)) ao)) ?_
  ·omega
  intro k pk ck
  rintro hk
  refine (Qm) ?_
  refine aF rfl (fun h55 => ?_) (fun h55 => ?_)
  ·refine (Q5) ?_
   have hck := aa.S7 (trns := tr) hc2 (by omega) (i := k) (by omega)
   refine jf [pz 0 [] [0], pz 0 [] [0], pz 2 [1] [], pz 6 [2] [], pz 14 [3] [], pz 0 [] [5], pz 32 [5] [], pz 0 [] [0], pz 128 [7] [], pz 384 [8] [], pz 896 [9] [], pz 1920 [10] [], pz 3968 [11] [], pz 8064 [12] [], pz 16352 [6, 13] [], pz 32736 [14] [], pz 65534 [4, 15] [], pz 131071 [0] [], pz 262143 [17] [], pz 524287 [18, 16] []] [⟨fun y => ai bf 90 [.int .i64 h.w, .int .i64 h.h, .int .i64 h.dep, .int .i64 h.ar, .bool h.aZ, .slice pp pl.length cp, .slice pt tr.length ct, .slice pd nd cd, .slice pk k ck], none, some 19, [4, 11]⟩, ⟨fun y => Row (aD 3 .i64) pk k ck ((aa.aR h tr).take k), none, some 16, []⟩, ⟨fun y => HW bx tr (16 * k) [] 0, none, some 6, []⟩, ⟨fun y => R, none, none, []⟩, ⟨fun y => HW bx tr (16 * k + 16) [] 0, some 6, none, []⟩, ⟨fun y => Row (I3) (some ⟨(ia (ea (y 15))), 0, none⟩) 1 1 [((aa.bM tr (16 * k) 16) % P)], some 15, none, [16]⟩, ⟨fun y => Row (I3) (ea (y 16)) (k + 1) (fC (y 16)) (((aa.aR h tr).take k) ++ [((aa.bM tr (16 * k) 16) % P)]), some 16, none, []⟩, ⟨fun y => ai bf 90 [.int .i64 h.w, .int .i64 h.h, .int .i64 h.dep, .int .i64 h.ar, .bool h.aZ, .slice pp pl.length cp, .slice pt tr.length ct, .slice pd nd cd, .slice (ea (y 16)) (k + 1) (fC (y 16))], some 19, none, []⟩] F V.mixed (by kernel_rfl) rfl (fun _ => .refl _) (aP _ (aP _ (aP _ (aP _ (cK _ rfl (by intro y y2 h; rfl) (cK _ rfl (by intro y y2 h; simp only [h 15 (.inl rfl)]) (cK _ rfl (by intro y y2 h; simp only [h 16 (.inl rfl)]) (cK _ rfl (by intro y y2 h; simp only [h 16 (.inr (by decide))]) eV)))))))) ?_
   iterate 2 refine nM ?_
   refine nN ?_
   refine nG V.IT ?_
   refine (Nq) ?_
   refine nM ?_
   refine nE (fun y FF hA => aX (Post := [HW bx tr (16 * k + 16) [] 0]) (jE bx tr (16 * k) [] 0 16 htl hB (by decide) (by omega)) V.sV rfl (aq .nil) (fun v G h => by rcases h with ⟨rfl, rfl⟩; exact ⟨rfl, .refl _⟩)) ?_
   refine nM ?_
   refine nN ?_
   refine (QY) ?_
   refine nG V.wz ?_
   refine (Qv) ?_
   refine nV (fun y hA L => gS (r := P) rfl rfl (by omega) ((aa.AI hd).trans hP.symm)) ?_
   refine (vF) ?_
   refine nV (fun y hA L => jG (r := ((aa.bM tr (16 * k) 16) % P)) rfl rfl (aa.L3 hP hd (aa.BI tr (16 * k)))) ?_
   refine eK (fun y v => .slice (some ⟨ia (ea v), 0, none⟩) 1 1) (fun y v => True) _ _ (fun y v => [Row (I3) (some ⟨(ia (ea v)), 0, none⟩) 1 1 [((aa.bM tr (16 * k) 16) % P)]]) _ (fun y => rfl) (fun y => rfl) (fun y => rfl) (fun y => rfl) (fun y FF hA => Bc (rX (I3) ([((aa.bM tr (16 * k) 16) % P)]) V.cA V.z3 rfl rfl rfl rfl rfl)) (by intros; rfl) (by intros; rfl) (by intros; rfl) (by intro y y2 h; simp only [h 15 (.inl rfl)]) (by intro y y2 h; rfl) ?_
   refine eK (fun y v => .slice (ea v) (k + 1) (fC v)) (fun y v => True) _ _ (fun y v => [Row (I3) (ea v) (k + 1) (fC v) (((aa.aR h tr).take k) ++ [((aa.bM tr (16 * k) 16) % P)])]) _ (fun y => rfl) (fun y => rfl) (fun y => rfl) (fun y => rfl) (fun y FF hA => qO (mS (c := (I3)) V.cA V.z3 rfl rfl rfl rfl dg (own dM) (by omega)) (.refl _)) (by intros; rfl) (by intros; rfl) (by intros; rfl) (by intro y y2 h; simp only [h 15 (.inr (by decide)), h 16 (.inl rfl)]) (by intro y y2 h; rfl) ?_
   refine nN ?_
   refine nG V.IT ?_
   refine nE (fun y FF hA => dE (dz V.ml rfl rfl rfl (by exact fW) (by exact Nat.le_of_ble_eq_true rfl) rfl) ⟨rfl, .refl _⟩) ?_
   refine (Qb) ?_
   intro y hA
   clear hA
   show kC _ _ _ _ (R :: HW bx tr (16 * k + 16) [] 0 :: Row (I3) (some ⟨(ia (ea (y 15))), 0, none⟩) 1 1 [((aa.bM tr (16 * k) 16) % P)] :: Row (I3) (ea (y 16)) (k + 1) (fC (y 16)) (((aa.aR h tr).take k) ++ [((aa.bM tr (16 * k) 16) % P)]) :: ai bf 90 [.int .i64 h.w, .int .i64 h.h, .int .i64 h.dep, .int .i64 h.ar, .bool h.aZ, .slice pp pl.length cp, .slice pt tr.length ct, .slice pd nd cd, .slice (ea (y 16)) (k + 1) (fC (y 16))] :: F)
   generalize (ia (ea (y 15))) = b71
   generalize (ea (y 16)) = p72
   generalize (fC (y 16)) = c72
   refine jD<|bg<|(Qo) ?_
   refine oV (eb rfl rfl wI)<|(Q6) ?_
   refine df ?_
   rw [show ((aa.aR h tr).take k) ++ [((aa.bM tr (16 * k) 16) % P)] = (aa.aR h tr).take (k + 1) from by rw [hck.1, aa.HX hB, ← hP]]
   exact j3 (k + 1) _ _ ⟨by omega, by omega⟩ (eQ ln) (sub (.cons iG (.cons dw (.cons ay (aq .nil)))) bC)
  ·refine (nS) ?_
   obtain rfl : t = true := ht.trans (decide_eq_true hC)
   have hcl := aa.L0 (trns := tr) hc2 (by omega)
   obtain rfl : k = (aa.parts h.ar).toNat := by omega
   rw [← hcl, List.take_length]
   exact ag (aw rfl) ⟨pk, _, ck, (aa.aR h tr), fun _ => rfl, rfl, rfl, rfl⟩ (sub (aT (.cons ay .nil)) bC)
end Go.Proofs.YtmaiakpjgomnpaaGreat
namespace Go.Proofs.YtmaiakpjgomnpaaGreat
open Go.Sl
theorem V.RF : aB Tryz.prog 171 = true := by kernel_rfl
theorem V.Oa : aB Tryz.prog 173 = true := by kernel_rfl
theorem V.BR : aB Tryz.prog 184 = true := by kernel_rfl
end Go.Proofs.YtmaiakpjgomnpaaGreat

/- Walks of functions that the law reaches, and what they lean on; no conditions. -/
import Derived.Test.YtmaiakpjgomnpaaGreatM0
import Derived.Test.YtmaiakpjgomnpaaGreatM4
import Derived.Test.YtmaiakpjgomnpaaGreatM2
import Derived.Test.YtmaiakpjgomnpaaGreatM1
import Derived.KernelRfl
import Derived.Test.YtmaiakpjgomnpaaGreatM6
set_option linter.unusedVariables false
set_option linter.unusedSimpArgs false
set_option maxRecDepth 100000
namespace Go.Proofs.YtmaiakpjgomnpaaGreat
open Go.Sl 
attribute [local irreducible] ag.an aa.fO aa.fG aa.dp aa.fo aa.eL aa.gA aa.gn aa.first
section
variable {C : Ctx} {E : Env} {L : List ad} {ty : TypeId}
theorem nZ {t u u2 T n b T' : Nat} {cs : List Value} {v2 v3 : Value} (hs : fT C.P T = some n) (h1 : E.get t = some (.pointer (some ⟨b, 0, none⟩))) (hm : ai b T' cs ∈ L) (hn : cs.length = n) (h2 : E.get u = some v2) (h3 : E.get u2 = some v3) : ks C #[.cell t T, .tmp u, .tmp u2] E L (.tuple #[.agg cs.toArray, v2, v3]) := fun fn a w hr ha hi => by
 obtain ⟨g1, g2⟩ := kL hs w
 obtain ⟨F, hF⟩ := hi.mem hm
 have := run_loadCells_list (P := C.P) w ⟨b, 0, none⟩ cs (fun j v hj => by rw [Addr.eO, hF.hJ, ← hj]; simp)
 rw [hn] at this
 simp [results, hr, ha.get _ _ h1, ha.get _ _ h2, ha.get _ _ h3, asAddr, loadVar, g1, g2, this]
end
theorem EG (p : Option Addr) (c n : Nat) (L : List Int) (R : ad) (hR : ∀ w0 h, R w0 h → aF U5 p n L w0 h) (hn : L.length = n) (hB : ag.an L) (h4 : 4 ≤ n) (hcap : n ≤ c) : az Tryz.prog 112 [.slice p n c] [R] (aG fun v G => v = .int .i64 (aH.cR L) ∧ G = [R]) := by
 subst hn; exact x9 p c L R hR hB h4 hcap
theorem GR (p : Option Addr) (c n : Nat) (L : List Int) (R : ad) (hR : ∀ w0 h, R w0 h → aF U5 p n L w0 h) (hn : L.length = n) (hB : ag.an L) (p2 : Option Addr) (c2 n2 : Nat) (D : List Int) (R2 : ad) (hR2 : ∀ w0 h, R2 w0 h → aF U5 p2 n2 D w0 h) (hn2 : D.length = n2) (hD : ag.an D) (t : Bool) (ht : t = decide (L = D)) : az Tryz.prog 110 [.slice p n c, .slice p2 n2 c2] [R, R2] (aG fun v G => v = .bool t ∧ G = [R, R2]) := by
 subst hn; subst hn2; exact KV p c L R hR hB p2 c2 D R2 hR2 hD t ht
theorem HD (bt : Nat) (kk : List Int) (hk : ag.an kk) (hkl : kk.length < 500000000) (p : Option Addr) (c n : Nat) (L : List Int) (R : ad) (hR : ∀ w0 h, R w0 h → aF U5 p n L w0 h) (hn : L.length = n) (hl : n < 500000000) (hB : ag.an L) : az Tryz.prog 109 [.pointer (some ⟨bt, 0, none⟩), .string (strOfNums kk), .slice p n c] [ai bt 175 (CA [] .u32 aa.eL []), R] (aG fun v G => v = .int .u32 (aa.gn kk L) ∧ G = [ai bt 175 (CA [] .u32 aa.eL []), R]) := by
 subst hn; exact Md bt kk hk hkl p c L R hR hl hB
theorem F7 (kk : List Int) (hk : ag.an kk) (hkl : kk.length < 500000000) (p : Option Addr) (c n : Nat) (L : List Int) (R : ad) (hR : ∀ w0 h, R w0 h → aF U5 p n L w0 h) (hn : L.length = n) (hl : n < 500000000) (hB : ag.an L) : az Tryz.prog 66 [.string (strOfNums kk), .slice p n c] [R] (aG fun v G => v = .int .u32 (aa.gn kk L) ∧ G = [R]) := by
 subst hn; exact Ko kk hk hkl p c L R hR hl hB
theorem He (p : Option Addr) (c n : Nat) (L : List Int) (R : ad) (hR : ∀ w0 h, R w0 h → aF U5 p n L w0 h) (hn : L.length = n) (hl : n < 500000000) : az Tryz.prog 91 [.slice p n c] [R] (aG fun v G => ∃ q cq, v = .slice q n cq ∧ G = [Row U5 q n cq L, R]) := by
 subst hn; exact nq p c L R hR hl
set_option maxHeartbeats 1000000 in
theorem GX (p : Option Addr) (c : Nat) (B : List Int) (R : ad) (hR : ∀ w0 h, R w0 h → aF U5 p B.length B w0 h) (hB : ag.an B) (hcap : B.length ≤ c) (p2 : Option Addr) (c2 : Nat) (D : List Int) (R2 : ad) (hR2 : ∀ w0 h, R2 w0 h → aF U5 p2 D.length D w0 h) (hD : ag.an D) (hlen : D.length ≤ B.length) (t : Bool) (ht : t = decide (B.take D.length = D)) : az Tryz.prog 77 [.slice p B.length c, .slice p2 D.length c2] [R, R2] (aG fun v G => v = .bool t ∧ G = [R, R2]) := by
 refine au [(0, _), (1, _)] Tryz.func77 rfl Tryz.ntmps77 rfl rfl ?_
 intro w0 F
 refine rT TT 11 rfl<|(QM)<|(QC) ?_
 refine oV (iI D.length _ V.bN rfl ⟨_, rfl⟩ rfl (by omega) (by omega))<|(Q0)<|(QY) ?_
 refine aj (GR p c D.length (B.take D.length) R (kK (cap := 0) hR D.length hlen) (by rw [List.length_take]; omega) (aa.fR hB _) p2 c2 D.length D R2 hR2 rfl hD t ht) V.Xx  rfl (aO .nil) rfl ?_
 rintro _ _ ⟨rfl, rfl⟩
 refine (Q3) ?_
 exact af (av rfl) ⟨rfl, rfl⟩ (sub (aO .nil) ak)
set_option maxHeartbeats 4000000 in
theorem AF (bt : Nat) (p : Option Addr) (c : Nat) (B : List Int) (R : ad) (hR : ∀ w0 h, R w0 h → aF U5 p B.length B w0 h) (hl : B.length < 500000000) (hB : ag.an B) (hcap : B.length ≤ c) : az Tryz.prog 79 [.slice p B.length c, .pointer (some ⟨bt, 0, none⟩)] [ai bt 175 (CA [] .u32 aa.eL []), R] (aG fun v G => (∃ e, aa.first B = .error e ∧ v = .tuple #[.agg #[.string ByteArray.empty, .slice none 0 0], .int .i64 0, .int .i64 e] ∧ G = [ai bt 175 (CA [] .u32 aa.eL []), R]) ∨ (∃ x q cq, aa.first B = .ok x ∧ v = .tuple #[.agg #[.string (strOfNums x.k), .slice q x.d.length cq], .int .i64 ((12 + x.d.length : Nat) : Int), .int .i64 0] ∧ G = [Row U5 q x.d.length cq x.d, ai bt 175 (CA [] .u32 aa.eL []), R])) := by
 refine au [(0, _), (1, _)] Tryz.func79 rfl Tryz.ntmps79 rfl rfl ?_
 intro w0 F
 refine (QD)<|(yo) ?_
 intro b4
 refine (Q8) ?_
 rcases (aa.xd hB) with ⟨h12, hf⟩ | ⟨n, h12, hn, hnb, hbig, hf⟩ | ⟨n, h12, hn, hnb, hnm, hf⟩ | ⟨n, h12, hn, hnb, hnm, hlt, hf⟩ | ⟨n, h12, hn, hnb, hnm, hge, hsum, hf⟩ | ⟨n, h12, hn, hnb, hnm, hge, hsum, hf⟩
 ·refine (Qe)<|(mg)<|(Q3)<|(ER)<|(rG)<|(Q1) ?_
  exact af (nZ V.o0 rfl aB rfl rfl rfl) (.inl ⟨2, hf, rfl, rfl⟩) (sub (.cons aw (.cons aw .nil)) bp)
 ·refine (Qe)<|(QE)<|(Q1) ?_
  have hS : ∀ w0 h, R w0 h → aF U5 (dq p 4 c 1) (8 - 4) ((B.drop 4).take 4) w0 h := fun w0 h hh => (hR w0 h hh).sub 4 8 c (by decide) (by omega) (by omega)
  refine (Ds) ?_
  refine nM ?_
  refine (CV) ?_
  refine nM ?_
  refine (E8) ?_
  refine (Er) ?_
  iterate 2 refine nA ?_
  refine (Qb) ?_
  intro y hA
  clear hA
  refine bj<|(Dq)<|(EK)<|(Q5) ?_
  rw [hn]
  refine (Q9)<|(Qu)<|(Qp)<|(ER)<|(rG)<|(Qd) ?_
  exact af (nZ V.o0 rfl aB rfl rfl rfl) (.inl ⟨4, hf, rfl, rfl⟩) (sub (.cons aw (.cons aw .nil)) bp)
 ·refine (Qe)<|(QE)<|(Q1) ?_
  have hS : ∀ w0 h, R w0 h → aF U5 (dq p 4 c 1) (8 - 4) ((B.drop 4).take 4) w0 h := fun w0 h hh => (hR w0 h hh).sub 4 8 c (by decide) (by omega) (by omega)
  refine (Ds) ?_
  refine nM ?_
  refine (CV) ?_
  refine nM ?_
  refine (E8) ?_
  refine (Er) ?_
  iterate 2 refine nA ?_
  refine (Qb) ?_
  intro y hA
  clear hA
  refine bj<|(Dq)<|(EK)<|(Q5) ?_
  rw [hn]
  refine rC TT 2 rfl ?_
  refine oV (bV (dz rfl rfl) (by omega)) ?_
  refine rO TT 2 rfl ?_
  refine dg rfl ?_
  refine aj (lN ((B.drop 4).take 4) (aa.fR (aa.dT hB 4) 4) (by rw [aa.j0 (by omega)]; decide) false (decide_eq_false hnm).symm) V.ui  rfl .nil rfl ?_
  rintro _ _ ⟨rfl, rfl⟩
  refine (Qk)<|(ER)<|(rG)<|(Qd) ?_
  exact af (nZ V.o0 rfl aB rfl rfl rfl) (.inl ⟨4, hf, rfl, rfl⟩) (sub (.cons aw (.cons aw .nil)) bp)
 ·refine (Qe)<|(QE)<|(Q1) ?_
  have hS : ∀ w0 h, R w0 h → aF U5 (dq p 4 c 1) (8 - 4) ((B.drop 4).take 4) w0 h := fun w0 h hh => (hR w0 h hh).sub 4 8 c (by decide) (by omega) (by omega)
  refine (Ds) ?_
  refine nM ?_
  refine (CV) ?_
  refine nM ?_
  refine (E8) ?_
  refine (Er) ?_
  iterate 2 refine nA ?_
  refine (Qb) ?_
  intro y hA
  clear hA
  refine bj<|(Dq)<|(EK)<|(Q5) ?_
  rw [hn]
  refine (Q9) ?_
  refine (Qr) ?_
  refine (Q6) ?_
  refine (Q0) ?_
  refine (Sv) ?_
  rintro _ _ ⟨rfl, rfl⟩
  refine (x8)<|(Qu)<|(Q1)<|(ER)<|(rG)<|(Qd) ?_
  exact af (nZ V.o0 rfl aB rfl rfl rfl) (.inl ⟨2, hf, rfl, rfl⟩) (sub (.cons aw (.cons aw .nil)) bp)
 ·refine (Qe)<|(QE)<|(Q1) ?_
  have hS : ∀ w0 h, R w0 h → aF U5 (dq p 4 c 1) (8 - 4) ((B.drop 4).take 4) w0 h := fun w0 h hh => (hR w0 h hh).sub 4 8 c (by decide) (by omega) (by omega)
  refine (Ds) ?_
  refine nM ?_
  refine (CV) ?_
  refine nM ?_
  refine (E8) ?_
  refine (Er) ?_
  iterate 2 refine nA ?_
  refine (Qb) ?_
  intro y hA
  clear hA
  refine bj<|(Dq)<|(EK)<|(Q5) ?_
  rw [hn]
  refine (Q9) ?_
  refine (Qr) ?_
  refine (Q6) ?_
  refine (Q0) ?_
  refine (Sv) ?_
  rintro _ _ ⟨rfl, rfl⟩
  refine (x8)<|(Qr)<|(Qk) ?_
  have hk4 := aa.fR (aa.dT hB 4) 4
  have D1 := aa.fR (aa.dT hB 8) n
  have hb8 := aa.dT hB (8 + n)
  have hn4 := aa.uU hb8
  have hX8 : ∀ w0 h, R w0 h → aF U5 (dq p 8 c 1) (8 + n - 8) ((B.drop 8).take n) w0 h := fun w0 h hh => by have h1 := (hR w0 h hh).sub 8 (8 + n) c (by omega) (by omega) (by omega); rwa [Nat.add_sub_cancel_left] at h1 ⊢
  have hXn : ∀ w0 h, R w0 h → aF U5 (dq p (8 + n) c 1) (B.length - (8 + n)) (B.drop (8 + n)) w0 h := fun w0 h hh => fU (c := U5) hR rfl (8 + n) c (by omega) hcap w0 h hh
  refine (Q5)<|(I6)<|(Vq)<|(Qk)<|(I6)<|(WH)<|(V4) ?_
  rintro _ _ ⟨rfl, rfl⟩
  refine (Vk)<|(Wc) ?_
  rintro _ _ ⟨rfl, rfl⟩
  refine oV (bV (cL rfl rfl) (fun h => h hsum))<|(Qn) ?_
  refine aj (He (dq p 8 c 1) (c - 8) (8 + n - 8) ((B.drop 8).take n) R hX8 (by rw [aa.j0 (by omega)]; omega) (by omega)) V.AJ  rfl (.cons aw .nil) rfl ?_
  rintro _ _ ⟨q53, c53, rfl, rfl⟩
  refine oV (cn V.MQ V.DP rfl (cs := [.string (strOfNums ((B.drop 4).take 4)), .slice q53 (8 + n - 8) c53]) rfl)<|(Q7) ?_
  refine oV (cY (v := .int .i64 ((12 + n : Nat) : Int)) (eA rfl rfl wI) (by congr 1))<|cy (bb V.o0 rfl rfl (us := [_, _]) rfl rfl (by exact I1) (by exact Nat.le_of_ble_eq_true rfl) rfl)<|(Q3) ?_
  have hdl := aa.j0 (l := B) (i := 8) (n := n) (by omega)
  have e8 : 8 + n - 8 = ((B.drop 8).take n).length := by rw [hdl]; omega
  rw [e8, show (12 + n : Nat) = 12 + ((B.drop 8).take n).length from by rw [hdl]]
  exact af (nZ V.o0 rfl iH rfl rfl rfl) (.inr ⟨_, _, _, hf, rfl, rfl⟩) (sub (aq (.cons aw (.cons cW .nil))) bp)
 ·refine (Qe)<|(QE)<|(Q1) ?_
  have hS : ∀ w0 h, R w0 h → aF U5 (dq p 4 c 1) (8 - 4) ((B.drop 4).take 4) w0 h := fun w0 h hh => (hR w0 h hh).sub 4 8 c (by decide) (by omega) (by omega)
  refine (Ds) ?_
  refine nM ?_
  refine (CV) ?_
  refine nM ?_
  refine (E8) ?_
  refine (Er) ?_
  iterate 2 refine nA ?_
  refine (Qb) ?_
  intro y hA
  clear hA
  refine bj<|(Dq)<|(EK)<|(Q5) ?_
  rw [hn]
  refine (Q9) ?_
  refine (Qr) ?_
  refine (Q6) ?_
  refine (Q0) ?_
  refine (Sv) ?_
  rintro _ _ ⟨rfl, rfl⟩
  refine (x8)<|(Qr)<|(Qk) ?_
  have hk4 := aa.fR (aa.dT hB 4) 4
  have D1 := aa.fR (aa.dT hB 8) n
  have hb8 := aa.dT hB (8 + n)
  have hn4 := aa.uU hb8
  have hX8 : ∀ w0 h, R w0 h → aF U5 (dq p 8 c 1) (8 + n - 8) ((B.drop 8).take n) w0 h := fun w0 h hh => by have h1 := (hR w0 h hh).sub 8 (8 + n) c (by omega) (by omega) (by omega); rwa [Nat.add_sub_cancel_left] at h1 ⊢
  have hXn : ∀ w0 h, R w0 h → aF U5 (dq p (8 + n) c 1) (B.length - (8 + n)) (B.drop (8 + n)) w0 h := fun w0 h hh => fU (c := U5) hR rfl (8 + n) c (by omega) hcap w0 h hh
  refine (Q5)<|(I6)<|(Vq)<|(Qk)<|(I6)<|(WH)<|(V4) ?_
  rintro _ _ ⟨rfl, rfl⟩
  refine (Vk)<|(Wc) ?_
  rintro _ _ ⟨rfl, rfl⟩
  refine oV (cQ (cL rfl rfl) hsum)<|(Q3)<|(ER) ?_
  refine cy (bb V.o0 rfl rfl (us := [_, _]) rfl rfl (by exact zM) (by exact Nat.le_of_ble_eq_true rfl) rfl)<|(Q1) ?_
  exact af (nZ V.o0 rfl dW rfl rfl rfl) (.inl ⟨5, hf, rfl, rfl⟩) (sub (aO .nil) bp)
end Go.Proofs.YtmaiakpjgomnpaaGreat
namespace Go.Proofs.YtmaiakpjgomnpaaGreat
open Go.Sl
theorem V.YK : ay Tryz.prog 76 = true := by kernel_rfl
theorem V.VN : ay Tryz.prog 77 = true := by kernel_rfl
theorem V.Ys : ay Tryz.prog 78 = true := by kernel_rfl
theorem V.VM : ay Tryz.prog 79 = true := by kernel_rfl
theorem V.Us : aW Tryz.prog 88 0 = some 0 := by kernel_rfl
theorem V.s9 : bZ Tryz.prog 9 = true := by kernel_rfl
theorem V.sB : sliceB Tryz.prog 84 = some (88, 2, 40) := by kernel_rfl
end Go.Proofs.YtmaiakpjgomnpaaGreat
namespace Go.Proofs.YtmaiakpjgomnpaaGreat
open Go.Sl 
attribute [local irreducible] ag.an aa.fO aa.fG aa.dp aa.fo aa.eL aa.gA aa.gn aa.first aa.cut aa.fu aa.ee aa.a8
structure Ce where
 k : List Int
 p : Option Addr
 c : Nat
 d : List Int
def Ce.ch (x : Ce) : aa.Ch := ⟨x.k, x.d⟩
def RX (x : Ce) : Option Addr × List Int := (x.p, x.d)
abbrev CK : Ec Ce := ⟨88, 2, fun x => [.string (strOfNums x.k), .slice x.p x.d.length x.c], ⟨[], none, 0, []⟩, fun _ => rfl, fun _ => rfl⟩
abbrev DK (l : List Ce) : ad := DT U5 RX l
def zU (x : Ce) : Prop := x.d.length ≤ x.c
theorem zG {es : List Ce} {x : Ce} (h : ∀ y ∈ es, zU y) (hx : x.d.length ≤ x.c) : ∀ y ∈ es ++ [x], zU y := fun y hy => (List.mem_append.1 hy).elim (h y) (fun e => List.mem_singleton.1 e ▸ hx)
theorem Hw (bt : Nat) (p : Option Addr) (c n : Nat) (L : List Int) (R : ad) (hR : ∀ w0 h, R w0 h → aF U5 p n L w0 h) (hn : L.length = n) (hl : n < 500000000) (hB : ag.an L) (hcap : n ≤ c) (e : Int) (hf : aa.first L = .error e) : az Tryz.prog 79 [.slice p n c, .pointer (some ⟨bt, 0, none⟩)] [ai bt 175 (CA [] .u32 aa.eL []), R] (aG fun v G => v = .tuple #[.agg #[.string ByteArray.empty, .slice none 0 0], .int .i64 0, .int .i64 e] ∧ G = [ai bt 175 (CA [] .u32 aa.eL []), R]) := by
 subst hn
 refine (AF bt p c L R hR hl hB hcap).mono ?_
 rintro e2 G ⟨v, rfl, (⟨e', h, rfl, rfl⟩ | ⟨x, q, cq, h, _, _⟩)⟩
 ·rw [hf] at h; cases h; exact ⟨_, rfl, rfl, rfl⟩
 ·rw [hf] at h; cases h
theorem HL (bt : Nat) (p : Option Addr) (c n : Nat) (L : List Int) (R : ad) (hR : ∀ w0 h, R w0 h → aF U5 p n L w0 h) (hn : L.length = n) (hl : n < 500000000) (hB : ag.an L) (hcap : n ≤ c) (x : aa.Ch) (hf : aa.first L = .ok x) : az Tryz.prog 79 [.slice p n c, .pointer (some ⟨bt, 0, none⟩)] [ai bt 175 (CA [] .u32 aa.eL []), R] (aG fun v G => ∃ q cq, v = .tuple #[.agg #[.string (strOfNums x.k), .slice q x.d.length cq], .int .i64 ((12 + x.d.length : Nat) : Int), .int .i64 0] ∧ G = [Row U5 q x.d.length cq x.d, ai bt 175 (CA [] .u32 aa.eL []), R]) := by
 subst hn
 refine (AF bt p c L R hR hl hB hcap).mono ?_
 rintro e2 G ⟨v, rfl, (⟨e', h, _, _⟩ | ⟨x', q, cq, h, rfl, rfl⟩)⟩
 ·rw [hf] at h; cases h
 ·rw [hf] at h; cases h; exact ⟨_, rfl, q, cq, rfl, rfl⟩
theorem vU (p : Option Addr) (c n : Nat) (L : List Int) (R : ad) (hR : ∀ w0 h, R w0 h → aF U5 p n L w0 h) (hn : L.length = n) (hB : ag.an L) (hcap : n ≤ c) (p2 : Option Addr) (c2 n2 : Nat) (D : List Int) (R2 : ad) (hR2 : ∀ w0 h, R2 w0 h → aF U5 p2 n2 D w0 h) (hn2 : D.length = n2) (hD : ag.an D) (hlen : n2 ≤ n) (t : Bool) (ht : t = decide (L.take n2 = D)) : az Tryz.prog 77 [.slice p n c, .slice p2 n2 c2] [R, R2] (aG fun v G => v = .bool t ∧ G = [R, R2]) := by
 subst hn; subst hn2; exact GX p c L R hR hB hcap p2 c2 D R2 hR2 hD hlen t ht
set_option maxHeartbeats 8000000 in
theorem JG (p : Option Addr) (c : Nat) (B : List Int) (R : ad) (hR : ∀ w0 h, R w0 h → aF U5 p B.length B w0 h) (hl : B.length < 500000000) (hB : ag.an B) (hcap : B.length ≤ c) : az Tryz.prog 37 [.slice p B.length c] [R] (aG fun v G => (∃ e, aa.cut B = .error e ∧ v = .tuple #[.slice none 0 0, .int .i64 e] ∧ G = [R]) ∨ (∃ q cq, ∃ es : List Ce, aa.cut B = .ok (es.map Ce.ch) ∧ es.length ≤ 262144 ∧ (∀ y ∈ es, zU y) ∧ v = .tuple #[.slice q es.length cq, .int .i64 0] ∧ G = [Row CK q es.length cq es, DK es, R])) := by
 refine au [(0, _)] Tryz.func37 rfl Tryz.ntmps37 rfl rfl ?_
 intro w0 F
 refine (QH) ?_
 refine aj (RY) V.YK  rfl .nil rfl ?_
 rintro _ _ ⟨b10, rfl, rfl⟩
 refine (Q3) ?_
 rcases (aa.MA B) with ⟨h1, hc⟩ | ⟨h1, hc⟩ | ⟨h1, h2, hsg, hc⟩ | ⟨h1, h2, hsg, hc⟩
 ·refine (Q4)<|(Qu)<|(Qq) ?_
  exact af (ez rfl rfl) (.inl ⟨3, hc, rfl, rfl⟩) (sub (.cons aw .nil) bp)
 ·refine (Q4)<|(Qr)<|(Qg)<|(mg)<|(Qq) ?_
  exact af (ez rfl rfl) (.inl ⟨2, hc, rfl, rfl⟩) (sub (.cons aw .nil) bp)
 ·refine rC TT 4 rfl ?_
  refine oV (bV (dz rfl rfl) (by omega)) ?_
  refine rO TT 10 rfl ?_
  refine oV (bV (dV rfl rfl) (by omega)) ?_
  refine rO TT 8 rfl ?_
  refine aj (vU p c B.length B R hR rfl hB hcap (some ⟨b10, 0, none⟩) 8 8 aa.ee (Row U5 (some ⟨b10, 0, none⟩) 8 8 aa.ee) (fun _ _ hh => hh.rd) aa.xc aa.ss (by omega) false (decide_eq_false hsg).symm) V.VN  rfl (.cons aw (aq .nil)) rfl ?_
  rintro _ _ ⟨rfl, rfl⟩
  refine (QK) ?_
  exact af (ez rfl rfl) (.inl ⟨4, hc, rfl, rfl⟩) (sub (aq .nil) bp)
 ·refine rC TT 4 rfl ?_
  refine oV (bV (dz rfl rfl) (by omega)) ?_
  refine rO TT 10 rfl ?_
  refine oV (bV (dV rfl rfl) (by omega)) ?_
  refine rO TT 8 rfl ?_
  refine aj (vU p c B.length B R hR rfl hB hcap (some ⟨b10, 0, none⟩) 8 8 aa.ee (Row U5 (some ⟨b10, 0, none⟩) 8 8 aa.ee) (fun _ _ hh => hh.rd) aa.xc aa.ss (by omega) true (decide_eq_true hsg).symm) V.VN  rfl (.cons aw (aq .nil)) rfl ?_
  rintro _ _ ⟨rfl, rfl⟩
  refine (Qg) ?_
  refine aj (Uc) V.Ys  rfl .nil rfl ?_
  rintro _ _ ⟨b26, rfl, rfl⟩
  refine (Qq) ?_
  refine oV (eb 8 B.length c V.bN rfl ⟨_, rfl⟩ ⟨rfl, rfl⟩ rfl (by omega) (by omega) (by omega))<|(Q8) ?_
  refine iT (DK []) (Ab _ _ _ _)<|iT (Row CK none 0 0 []) (Row.nil _ _ _) ?_
  rw [show B.length - 8 = (B.drop 8).length from List.length_drop.symm]
  refine Bh (fun (f : Nat) (pz : Option Addr) (cz : Nat) (Z : List Int) (pl : Option Addr) (cl : Nat) (es : List Ce) => [(0, .slice pz Z.length cz), (5, .pointer (some ⟨b26, 0, none⟩)), (6, .slice pl es.length cl)]) (fun (f : Nat) (pz : Option Addr) (cz : Nat) (Z : List Int) (pl : Option Addr) (cl : Nat) (es : List Ce) => Row CK pl es.length cl es :: DK es :: ai b26 175 (CA [] .u32 aa.eL []) :: R :: F) (fun (f : Nat) (pz : Option Addr) (cz : Nat) (Z : List Int) (pl : Option Addr) (cl : Nat) (es : List Ce) => aa.fu f Z (es.map Ce.ch) = aa.cut B ∧ Z.length < f ∧ (∀ w0 h, R w0 h → aF U5 pz Z.length Z w0 h) ∧ Z.length ≤ cz ∧ ag.an Z ∧ es.length + Z.length ≤ 262144 ∧ (∀ y ∈ es, zU y)) (fun (f : Nat) (pz : Option Addr) (cz : Nat) (Z : List Int) (pl : Option Addr) (cl : Nat) (es : List Ce) => f) (i7 ((B.length + 1)) ((dq p 8 c 1)) ((c - 8)) ((B.drop 8)) (none) (0) ([]) ?_ (gK ln) (sub (lZ .nil) bp)) ?_
  ·exact ⟨hc, by rw [List.length_drop]; omega, by rw [List.length_drop]; exact fU (c := U5) hR rfl 8 c (by omega) hcap, by rw [List.length_drop]; omega, aa.dT hB 8, by rw [List.length_drop]; show 0 + _ ≤ _; omega, fun y hy => by cases hy⟩
  intro f pz cz Z pl cl es
  rintro ⟨hcut, hZf, hZR, hZc, hZB, hes, hco⟩
  obtain ⟨f, rfl⟩ : ∃ g, f = g + 1 := ⟨f - 1, by omega⟩
  refine rL TT 1 rfl ?_
  rcases (aa.Xo hZB) with ⟨e, hf, he⟩ | ⟨x, hf, hxl, hxn, hxB, hk⟩ | ⟨x, hf, hxl, hxn, hxB, hk⟩ | ⟨x, hf, hxl, hxn, hxB, hk⟩
  ·refine (Q4) ?_
   refine aj (Hw b26 pz cz Z.length Z R hZR rfl (by omega) hZB hZc e hf) V.VM  rfl (.cons bg (.cons bg .nil)) rfl ?_
   rintro _ _ ⟨rfl, rfl⟩
   refine (Q8)<|(yo) ?_
   intro b7
   refine (rG)<|(Qk) ?_
   refine oV (cQ (cL rfl rfl) he)<|(QI) ?_
   rw [aa.Nn hf] at hcut
   exact af (ez rfl rfl) (.inl ⟨e, hcut.symm, rfl, rfl⟩) (sub (.cons bg .nil) lA)
  ·refine (Q4)<|(Nc) ?_
   rintro _ _ ⟨q35, c35, rfl, rfl⟩
   refine (Q8)<|(yo) ?_
   intro b7
   refine (rG)<|(Qk)<|(MV)<|(Qn)<|(Se)<|(Q1)<|(E4)<|(O9) ?_
   intro b46
   refine (Ol) ?_
   intro p47 c47
   refine (Q3) ?_
   refine gr (fun w hi => eS hi (show Row U5 q35 x.d.length c35 x.d ∈ _ by exact iH)) (fun hcx => ?_)
   refine (R5)<|(Q9) ?_
   refine oV (aA V.s9 rfl iH rfl)<|oV (cY (v := .bool true) (mQ (r := false) (tY (aa.bu (aa.rk hxn)) (aa.bu aa.wW) hk) rfl (show ao _ _ = some (.string (strOfNums aa.a8)) by unfold aa.a8; rfl)) rfl)<|(Q1) ?_
   have hdl : (Z.drop (12 + x.d.length)).length = Z.length - (12 + x.d.length) := List.length_drop
   have hel : (es ++ [(Ce.mk x.k q35 c35 x.d)]).length = es.length + 1 := by rw [List.length_append]; rfl
   rw [aa.Mm hf hk, show es.map Ce.ch ++ [x] = (es ++ [(Ce.mk x.k q35 c35 x.d)]).map Ce.ch from by rw [List.map_append]; rfl] at hcut
   rw [← hdl, ← hel]
   exact j7 f _ _ (Z.drop (12 + x.d.length)) _ _ (es ++ [(Ce.mk x.k q35 c35 x.d)]) ⟨⟨hcut, by omega, by rw [hdl]; exact fU (c := U5) hZR rfl (12 + x.d.length) cz (by omega) hZc, by omega, aa.dT hZB _, by omega, zG hco hcx⟩, by omega⟩ (.cons rfl (.cons rfl (.cons rfl (.nil _)))) (sub (.cons aw (.cons cW (.cons bg (.cons bg .nil)))) fP)
  ·refine (Q4)<|(Nc) ?_
   rintro _ _ ⟨q35, c35, rfl, rfl⟩
   refine (Q8)<|(yo) ?_
   intro b7
   refine (rG)<|(Qk)<|(MV)<|(Qn)<|(Se)<|(Q1)<|(E4)<|(O9) ?_
   intro b46
   refine (Ol) ?_
   intro p47 c47
   refine (Q3) ?_
   refine gr (fun w hi => eS hi (show Row U5 q35 x.d.length c35 x.d ∈ _ by exact iH)) (fun hcx => ?_)
   refine (R5)<|(Q9) ?_
   refine oV (aA V.s9 rfl iH rfl)<|(Vu)<|(Qg)<|(Qr) ?_
   refine rO TT 16 rfl ?_
   have hel : (es ++ [(Ce.mk x.k q35 c35 x.d)]).length = es.length + 1 := by rw [List.length_append]; rfl
   rw [aa.NK hf hk hxl, show es.map Ce.ch ++ [x] = (es ++ [(Ce.mk x.k q35 c35 x.d)]).map Ce.ch from by rw [List.map_append]; rfl] at hcut
   rw [← hel]
   exact af (ez rfl rfl) (.inr ⟨_, _, _, hcut.symm, by omega, zG hco hcx, rfl, rfl⟩) (sub (.cons aw (aq (.cons c9 .nil))) mw)
  ·refine (Q4)<|(Nc) ?_
   rintro _ _ ⟨q35, c35, rfl, rfl⟩
   refine (Q8)<|(yo) ?_
   intro b7
   refine (rG)<|(Qk)<|(MV)<|(Qn)<|(Se)<|(Q1)<|(E4)<|(O9) ?_
   intro b46
   refine (Ol) ?_
   intro p47 c47
   refine (Q3) ?_
   refine gr (fun w hi => eS hi (show Row U5 q35 x.d.length c35 x.d ∈ _ by exact iH)) (fun hcx => ?_)
   refine (R5)<|(Q9) ?_
   refine oV (aA V.s9 rfl iH rfl)<|(Vu)<|(Qg)<|(Qu)<|(QK) ?_
   rw [aa.Ov hf hk hxl] at hcut
   exact af (ez rfl rfl) (.inl ⟨4, hcut.symm, rfl, rfl⟩) (sub (.cons jM .nil) IE)
end Go.Proofs.YtmaiakpjgomnpaaGreat
namespace Go.Proofs.YtmaiakpjgomnpaaGreat
open Go.Sl
theorem V.MI : ay Tryz.prog 113 = true := by kernel_rfl
theorem V.Sj : ay Tryz.prog 114 = true := by kernel_rfl
theorem V.YT : aW Tryz.prog 137 0 = some 0 := by kernel_rfl
theorem V.Y1 : aW Tryz.prog 137 1 = some 1 := by kernel_rfl
theorem V.Y0 : aW Tryz.prog 137 2 = some 2 := by kernel_rfl
theorem V.YZ : aW Tryz.prog 137 3 = some 3 := by kernel_rfl
end Go.Proofs.YtmaiakpjgomnpaaGreat
namespace Go.Proofs.YtmaiakpjgomnpaaGreat
open Go.Sl 
attribute [local irreducible] ag.an aa.fO aa.fG aa.dp aa.fo aa.eL aa.gA aa.ba aa.aS aa.aY aa.a8 aa.bQ aa.fJ aa.cZ
set_option maxHeartbeats 1000000 in
theorem EX (kk : List Int) (hk : ag.an kk) (hkl : kk.length < 500000000) (t : Bool) (ht : t = decide (aa.fJ kk)) : az Tryz.prog 114 [.string (strOfNums kk)] [] (aG fun v G => v = .bool t ∧ G = []) := by
 refine au [(0, _)] Tryz.func114 rfl Tryz.ntmps114 rfl rfl ?_
 intro w0 F
 refine (QO) ?_
 rcases (Classical.em (aa.cZ kk)) with hnm | hnm
 ·refine (Q5) ?_
  refine aj (lN kk hk (by omega) true (decide_eq_true hnm).symm) V.ui  rfl .nil rfl ?_
  rintro _ _ ⟨rfl, rfl⟩
  refine (Ql) ?_
  refine oV (Ac 0 Tryz.underlying9 rfl rfl (aa.bu hk) rfl (by have := aa.AB hnm; omega))<|(Q1) ?_
  (rw [show decide (kk.getD 0 0 ≤ 90) = t from (aa.P8 ht hnm).symm]; exact af (G := []) (av rfl) ⟨rfl, rfl⟩ (sub .nil ak))
 ·refine (Q5) ?_
  refine aj (lN kk hk (by omega) false (decide_eq_false hnm).symm) V.ui  rfl .nil rfl ?_
  rintro _ _ ⟨rfl, rfl⟩
  refine (Qn) ?_
  (obtain rfl : t = false := aa.M8 ht hnm; exact af (G := []) (av rfl) ⟨rfl, rfl⟩ (sub .nil ak))
set_option maxHeartbeats 1000000 in
theorem LJ (b : Nat) (pl tr id_ ov : Bool) : az Tryz.prog 113 [.pointer (some ⟨b, 0, none⟩), .pointer (some ⟨b, 0, none⟩)] [ai b 137 [.bool pl, .bool tr, .bool id_, .bool ov]] (aG fun v G => v = .bool (!pl && !id_) ∧ G = [ai b 137 [.bool true, .bool tr, .bool id_, .bool ov]]) := by
 refine au [(0, _), (1, _)] Tryz.func113 rfl Tryz.ntmps113 rfl rfl ?_
 intro w0 F
 refine (QO) ?_
 rcases ((by cases pl; exact .inl rfl; exact .inr rfl : pl = false ∨ pl = true)) with rfl | rfl
 ·refine (Q4)<|(oT)<|(QZ)<|(oT)<|(Q0) ?_
  refine oV (lH rfl)<|(Qk)<|(Am)<|(Qn) ?_
  exact af (av rfl) ⟨rfl, rfl⟩ (sub (aq .nil) ak)
 ·refine (Q4)<|(oT)<|(QI)<|(Am)<|(Qn) ?_
  exact af (av rfl) ⟨rfl, rfl⟩ (sub (aq .nil) ak)
set_option maxHeartbeats 1000000 in
theorem K0 (b : Nat) (pl tr id_ ov : Bool) : az Tryz.prog 113 [.pointer (some ⟨b, 0, none⟩), .pointer (some ⟨b, 1, none⟩)] [ai b 137 [.bool pl, .bool tr, .bool id_, .bool ov]] (aG fun v G => v = .bool (!tr && !id_) ∧ G = [ai b 137 [.bool pl, .bool true, .bool id_, .bool ov]]) := by
 refine au [(0, _), (1, _)] Tryz.func113 rfl Tryz.ntmps113 rfl rfl ?_
 intro w0 F
 refine (QO) ?_
 rcases ((by cases tr; exact .inl rfl; exact .inr rfl : tr = false ∨ tr = true)) with rfl | rfl
 ·refine (Q4)<|(oT)<|(QZ)<|(oT)<|(Q0) ?_
  refine oV (lH rfl)<|(Qk)<|(Am)<|(Qn) ?_
  exact af (av rfl) ⟨rfl, rfl⟩ (sub (aq .nil) ak)
 ·refine (Q4)<|(oT)<|(QI)<|(Am)<|(Qn) ?_
  exact af (av rfl) ⟨rfl, rfl⟩ (sub (aq .nil) ak)
set_option maxHeartbeats 4000000 in
theorem SE (b : Nat) (pl tr id_ ov : Bool) (x : Ce) (hxk : ag.an x.k) (hxl : x.k.length < 500000000) : az Tryz.prog 80 [.pointer (some ⟨b, 0, none⟩), .agg #[.string (strOfNums x.k), .slice x.p x.d.length x.c]] [ai b 137 [.bool pl, .bool tr, .bool id_, .bool ov]] (aG fun v G => v = .bool (aa.bS ⟨pl, tr, id_, ov⟩ x.ch).2 ∧ G = [ai b 137 [.bool (aa.bS ⟨pl, tr, id_, ov⟩ x.ch).1.plte, .bool (aa.bS ⟨pl, tr, id_, ov⟩ x.ch).1.trns, .bool (aa.bS ⟨pl, tr, id_, ov⟩ x.ch).1.bU, .bool (aa.bS ⟨pl, tr, id_, ov⟩ x.ch).1.ka]]) := by
 refine au [(0, _), (1, _)] Tryz.func80 rfl Tryz.ntmps80 rfl rfl ?_
 intro w0 F
 refine (QD) ?_
 refine jE rfl (cs := [_, _]) rfl rfl ?_
 intro b3
 refine (Qi) ?_
 rcases (aa.TA x.k tr) with h1 | ⟨h1, h2, rfl⟩ | ⟨h1, h2, rfl⟩ | ⟨h1, h2, h3⟩ | ⟨h1, h2, h3, h4⟩ | ⟨h1, h2, h3, h4, h5⟩ | ⟨h1, h2, h3, h4, h5⟩
 ·refine (Q4)<|(nO) ?_
  refine oV (ji (aa.bu hxk) (aa.bu aa.qW) rfl (show ao _ _ = some (.string (strOfNums aa.ba)) by unfold aa.ba; rfl) (decide_eq_true h1).symm)<|(Qk)<|(vy)<|(Qd)<|(tK) ?_
  refine oV (lH rfl)<|(Q3) ?_
  exact af (av rfl) (by rw [show (aa.bS ⟨pl, tr, id_, ov⟩ x.ch) = _ from aa.Xh h1]; exact ⟨rfl, rfl⟩) (sub (.cons aw .nil) bp)
 ·refine (Q4)<|(nO)<|(AT)<|(Qp)<|(tK)<|(Q6)<|(vy)<|(Q1)<|(ry)<|(UK)<|(Qn)<|(tK)<|(QK) ?_
  (exact af (G := [ai b 137 [.bool pl, .bool true, .bool id_, .bool id_]]) (av rfl) (by rw [show (aa.bS ⟨pl, true, id_, ov⟩ x.ch) = _ from aa.Tr h1 h2]; exact ⟨rfl, rfl⟩) (sub (.cons aw .nil) bp))
 ·refine (Q4)<|(nO)<|(AT)<|(Qp)<|(tK)<|(Q6)<|(vy)<|(Q1)<|(ry)<|(UK)<|(Qn)<|(tK)<|(Q1)<|(Q0) ?_
  refine aj (LJ b pl false id_ id_) V.MI  rfl (.cons aw .nil) rfl ?_
  rintro _ _ ⟨rfl, rfl⟩
  refine (Qd) ?_
  (exact af (G := [ai b 137 [.bool true, .bool false, .bool id_, .bool id_]]) (av rfl) (by rw [show (aa.bS ⟨pl, false, id_, ov⟩ x.ch) = _ from aa.TL h1 h2]; exact ⟨rfl, rfl⟩) (sub (aq .nil) bp))
 ·refine (Q4)<|(nO)<|(AT)<|(Qp)<|(tK)<|(Q6)<|(vy)<|(Q1)<|(ry)<|(H8)<|(Q1) ?_
  refine oV (ji (aa.bu hxk) (aa.bu aa.qV) rfl (show ao _ _ = some (.string (strOfNums aa.aY)) by unfold aa.aY; rfl) (decide_eq_true h3).symm)<|(Qg) ?_
  refine aj (K0 b pl tr id_ id_) V.MI  rfl (.cons aw .nil) rfl ?_
  rintro _ _ ⟨rfl, rfl⟩
  refine (Q1) ?_
  exact af (av rfl) (by rw [show (aa.bS ⟨pl, tr, id_, ov⟩ x.ch) = _ from aa.Xk h1 h2 h3]; exact ⟨rfl, rfl⟩) (sub (aq .nil) bp)
 ·refine (Q4)<|(nO)<|(AT)<|(Qp)<|(tK)<|(Q6)<|(vy)<|(Q1)<|(ry)<|(H8)<|(Q1)<|(PN)<|(Qg)<|(nO) ?_
  refine aj (lN x.k hxk (by omega) false (decide_eq_false h4).symm) V.ui  rfl .nil rfl ?_
  rintro _ _ ⟨rfl, rfl⟩
  refine (Qg) ?_
  (exact af (G := [ai b 137 [.bool pl, .bool tr, .bool id_, .bool id_]]) (av rfl) (by rw [show (aa.bS ⟨pl, tr, id_, ov⟩ x.ch) = _ from aa.GM (r := false) h1 h2 h3 (aa.WY h4)]; exact ⟨rfl, rfl⟩) (sub (.cons aw .nil) bp))
 ·refine (Q4)<|(nO)<|(AT)<|(Qp)<|(tK)<|(Q6)<|(vy)<|(Q1)<|(ry)<|(H8)<|(Q1)<|(PN)<|(Qg)<|(nO)<|(UM) ?_
  rintro _ _ ⟨rfl, rfl⟩
  refine (Ql)<|(nO)<|(Q0) ?_
  refine aj (EX x.k hxk (by omega) true (decide_eq_true h5).symm) V.Sj  rfl .nil rfl ?_
  rintro _ _ ⟨rfl, rfl⟩
  refine (Q1) ?_
  (exact af (G := [ai b 137 [.bool pl, .bool tr, .bool id_, .bool id_]]) (av rfl) (by rw [show (aa.bS ⟨pl, tr, id_, ov⟩ x.ch) = _ from aa.GM (r := false) h1 h2 h3 (aa.W4 h5)]; exact ⟨rfl, rfl⟩) (sub (.cons aw .nil) bp))
 ·refine (Q4)<|(nO)<|(AT)<|(Qp)<|(tK)<|(Q6)<|(vy)<|(Q1)<|(ry)<|(H8)<|(Q1)<|(PN)<|(Qg)<|(nO)<|(UM) ?_
  rintro _ _ ⟨rfl, rfl⟩
  refine (Ql)<|(nO)<|(Q0) ?_
  refine aj (EX x.k hxk (by omega) false (decide_eq_false h5).symm) V.Sj  rfl .nil rfl ?_
  rintro _ _ ⟨rfl, rfl⟩
  refine (Q1) ?_
  (exact af (G := [ai b 137 [.bool pl, .bool tr, .bool id_, .bool id_]]) (av rfl) (by rw [show (aa.bS ⟨pl, tr, id_, ov⟩ x.ch) = _ from aa.GM (r := true) h1 h2 h3 (aa.XL h4 h5)]; exact ⟨rfl, rfl⟩) (sub (.cons aw .nil) bp))
end Go.Proofs.YtmaiakpjgomnpaaGreat
namespace Go.Proofs.YtmaiakpjgomnpaaGreat
open Go.Sl
theorem V.Yz : ay Tryz.prog 80 = true := by kernel_rfl
theorem V.SY : aW Tryz.prog 88 1 = some 1 := by kernel_rfl
theorem V.S9 : eC Tryz.prog 137 = some [(0, 1), (1, 1), (2, 1), (3, 1)] := by kernel_rfl
theorem V.Xv : cu Tryz.prog 137 = some ([.bool false, .bool false, .bool false, .bool false]) := by kernel_rfl
end Go.Proofs.YtmaiakpjgomnpaaGreat
namespace Go.Proofs.YtmaiakpjgomnpaaGreat
open Go.Sl 
attribute [local irreducible] ag.an aa.fO aa.fG aa.dp aa.fo aa.eL aa.gA aa.ba aa.aS aa.aY aa.a8 aa.bQ aa.fJ aa.cZ aa.cD aa.bS aa.walk aa.mid
theorem NI (es : List Ce) (i : Nat) : ((es.map Ce.ch).map aa.Ch.k).getD i [] = (CK.g es (i : Int)).k := by
 show _ = (es.getD i _).k
 simp only [List.getD_eq_getElem?_getD, List.getElem?_map]
 cases es[i]? <;> rfl
theorem R8 (es : List Ce) (i : Nat) : ((es.map Ce.ch).map (·.d.length)).getD i 0 = (CK.g es (i : Int)).d.length := by
 show _ = (es.getD i _).d.length
 simp only [List.getD_eq_getElem?_getD, List.getElem?_map]
 cases es[i]? <;> rfl
theorem N1 {es : List Ce} {i : Nat} (h : i < es.length - 2) : (aa.mid (es.map Ce.ch))[i]? = some (CK.g ((es.drop 1).take (es.length - 1 - 1)) (i : Int)).ch := by
 rw [aa.LH (by rw [List.length_map]; exact h), List.getElem?_map]
 have e : CK.g ((es.drop 1).take (es.length - 1 - 1)) (i : Int) = es[1 + i]'(by omega) := by
  show ((es.drop 1).take (es.length - 1 - 1)).getD i _ = _
  rw [List.getD_eq_getElem?_getD, List.getElem?_take_of_lt (by omega), List.getElem?_drop, List.getElem?_eq_getElem (by omega)]
  rfl
 rw [e, List.getElem?_eq_getElem (by omega)]
 rfl
theorem kp {es : List Ce} {i : Nat} (P : Ce → Prop) (h : ∀ x ∈ es, P x) (hi : i < es.length) : P (CK.g es (i : Int)) := by
 have : CK.g es (i : Int) = es[i] := CK.tb hi
 rw [this]
 exact h _ (List.getElem_mem hi)
def Ii (es : List Ce) : Prop := ∀ x ∈ es, ag.an x.k ∧ x.k.length < 500000000
set_option maxHeartbeats 8000000 in
theorem Mf (p : Option Addr) (c : Nat) (es : List Ce) (R : ad) (hR : ∀ w0 h, R w0 h → aF CK p es.length es w0 h) (hel : es.length ≤ 262144) (hok : Ii es) (hcap : es.length ≤ c) : az Tryz.prog 38 [.slice p es.length c] [R] (aG fun v G => v = .int .i64 (aa.Hy (es.map Ce.ch)) ∧ G = [R]) := by
 refine au [(0, _)] Tryz.func38 rfl Tryz.ntmps38 rfl rfl ?_
 intro w0 F
 have h6 := aa.XN (es.map Ce.ch)
 rw [List.length_map, NI, R8, NI, R8, show (((0 : Nat) : Int)) = 0 from rfl] at h6
 refine (QO) ?_
 rcases (h6) with ⟨h3, ho⟩ | ⟨h3, hk0, ho⟩ | ⟨h3, hk0, hd0, ho⟩ | ⟨h3, hk0, hd0, hkn, ho⟩ | ⟨h3, hk0, hd0, hkn, hdn, ho⟩ | ⟨h3, hk0, hd0, hkn, hdn, ho⟩
 ·refine (Dd)<|(mg) ?_
  refine rO TT 42 rfl ?_
  rw [← aa.k7 ho]
  exact af (av rfl) ⟨rfl, rfl⟩ (sub (aq .nil) ak)
 ·refine (Q4)<|(Ej)<|(Q3) ?_
  have hb0 : ag.an (CK.g es 0).k := (kp (i := 0) (fun x => ag.an x.k ∧ x.k.length < 500000000) hok (by omega)).1
  have hbn := (kp (i := (es.length - 1)) (fun x => ag.an x.k ∧ x.k.length < 500000000) hok (by omega)).1
  refine (Q9) ?_
  refine (QE) ?_
  refine (Q6) ?_
  refine (Q0) ?_
  refine (mc) ?_
  refine (Q0) ?_
  refine (vk) ?_
  refine (Q0) ?_
  refine (vl) ?_
  refine (Q0) ?_
  refine oV (cY (v := .bool true) (mQ (r := false) (tY (aa.bu hb0) (aa.bu aa.J9) hk0) rfl (show ao _ _ = some (.string (strOfNums aa.bQ)) by unfold aa.bQ; rfl)) rfl) ?_
  refine rO TT 36 rfl ?_
  rw [← aa.k7 ho]
  exact af (av rfl) ⟨rfl, rfl⟩ (sub (aq .nil) ak)
 ·refine (Q4)<|(Ej)<|(Q3) ?_
  have hb0 : ag.an (CK.g es 0).k := (kp (i := 0) (fun x => ag.an x.k ∧ x.k.length < 500000000) hok (by omega)).1
  have hbn := (kp (i := (es.length - 1)) (fun x => ag.an x.k ∧ x.k.length < 500000000) hok (by omega)).1
  refine (Q9) ?_
  refine (QE) ?_
  refine (Q6) ?_
  refine (Q0) ?_
  refine (mc) ?_
  refine (Q0) ?_
  refine (vk) ?_
  refine (Q0) ?_
  refine (vl) ?_
  refine (Q0) ?_
  refine (IJ) ?_
  refine (Qi) ?_
  refine (Q0) ?_
  refine (mc) ?_
  refine (Q0) ?_
  refine (pD) ?_
  refine (Q0) ?_
  refine (zT) ?_
  refine (Q0) ?_
  refine (oX) ?_
  refine (Q0) ?_
  refine oV (cQ (cL rfl rfl) (fun hh => hd0 (by omega))) ?_
  refine rO TT 28 rfl ?_
  rw [← aa.k7 ho]
  exact af (av rfl) ⟨rfl, rfl⟩ (sub (aq .nil) ak)
 ·refine (Q4)<|(Ej)<|(Q3) ?_
  have hb0 : ag.an (CK.g es 0).k := (kp (i := 0) (fun x => ag.an x.k ∧ x.k.length < 500000000) hok (by omega)).1
  have hbn := (kp (i := (es.length - 1)) (fun x => ag.an x.k ∧ x.k.length < 500000000) hok (by omega)).1
  refine (Q9) ?_
  refine (QE) ?_
  refine (Q6) ?_
  refine (Q0) ?_
  refine (mc) ?_
  refine (Q0) ?_
  refine (vk) ?_
  refine (Q0) ?_
  refine (vl) ?_
  refine (Q0) ?_
  refine (IJ) ?_
  refine (Qi) ?_
  refine (Q0) ?_
  refine (mc) ?_
  refine (Q0) ?_
  refine (pD) ?_
  refine (Q0) ?_
  refine (zT) ?_
  refine (Q0) ?_
  refine (oX) ?_
  refine (Q0) ?_
  refine (JO) ?_
  refine (Q8) ?_
  refine (Q0) ?_
  refine (mc) ?_
  refine (Q0) ?_
  refine (vk) ?_
  refine (Q0) ?_
  refine (vl) ?_
  refine (Q0) ?_
  refine oV (cY (v := .bool true) (mQ (r := false) (tY (aa.bu hbn) (aa.bu aa.wW) hkn) rfl (show ao _ _ = some (.string (strOfNums aa.a8)) by unfold aa.a8; rfl)) rfl) ?_
  refine rO TT 20 rfl ?_
  rw [← aa.k7 ho]
  exact af (av rfl) ⟨rfl, rfl⟩ (sub (aq .nil) ak)
 ·refine (Q4)<|(Ej)<|(Q3) ?_
  have hb0 : ag.an (CK.g es 0).k := (kp (i := 0) (fun x => ag.an x.k ∧ x.k.length < 500000000) hok (by omega)).1
  have hbn := (kp (i := (es.length - 1)) (fun x => ag.an x.k ∧ x.k.length < 500000000) hok (by omega)).1
  refine (Q9) ?_
  refine (QE) ?_
  refine (Q6) ?_
  refine (Q0) ?_
  refine (mc) ?_
  refine (Q0) ?_
  refine (vk) ?_
  refine (Q0) ?_
  refine (vl) ?_
  refine (Q0) ?_
  refine (IJ) ?_
  refine (Qi) ?_
  refine (Q0) ?_
  refine (mc) ?_
  refine (Q0) ?_
  refine (pD) ?_
  refine (Q0) ?_
  refine (zT) ?_
  refine (Q0) ?_
  refine (oX) ?_
  refine (Q0) ?_
  refine (JO) ?_
  refine (Q8) ?_
  refine (Q0) ?_
  refine (mc) ?_
  refine (Q0) ?_
  refine (vk) ?_
  refine (Q0) ?_
  refine (vl) ?_
  refine (Q0) ?_
  refine (Vg) ?_
  refine (Q8) ?_
  refine (Q0) ?_
  refine (mc) ?_
  refine (Q0) ?_
  refine (pD) ?_
  refine (Q0) ?_
  refine (zT) ?_
  refine (Q0) ?_
  refine (oX) ?_
  refine (Q0) ?_
  refine (Qu) ?_
  refine (Qp) ?_
  rw [← aa.k7 ho]
  exact af (av rfl) ⟨rfl, rfl⟩ (sub (aq .nil) ak)
 ·refine (Q4)<|(Ej)<|(Q3) ?_
  have hb0 : ag.an (CK.g es 0).k := (kp (i := 0) (fun x => ag.an x.k ∧ x.k.length < 500000000) hok (by omega)).1
  have hbn := (kp (i := (es.length - 1)) (fun x => ag.an x.k ∧ x.k.length < 500000000) hok (by omega)).1
  refine (Q9) ?_
  refine (QE) ?_
  refine (Q6) ?_
  refine (Q0) ?_
  refine (mc) ?_
  refine (Q0) ?_
  refine (vk) ?_
  refine (Q0) ?_
  refine (vl) ?_
  refine (Q0) ?_
  refine (IJ) ?_
  refine (Qi) ?_
  refine (Q0) ?_
  refine (mc) ?_
  refine (Q0) ?_
  refine (pD) ?_
  refine (Q0) ?_
  refine (zT) ?_
  refine (Q0) ?_
  refine (oX) ?_
  refine (Q0) ?_
  refine (JO) ?_
  refine (Q8) ?_
  refine (Q0) ?_
  refine (mc) ?_
  refine (Q0) ?_
  refine (vk) ?_
  refine (Q0) ?_
  refine (vl) ?_
  refine (Q0) ?_
  refine (Vg) ?_
  refine (Q8) ?_
  refine (Q0) ?_
  refine (mc) ?_
  refine (Q0) ?_
  refine (pD) ?_
  refine (Q0) ?_
  refine (zT) ?_
  refine (Q0) ?_
  refine (oX) ?_
  refine (Q0) ?_
  refine (Qr) ?_
  refine (Qk) ?_
  refine oV (cn V.S9 V.Xv rfl (cs := [_, _, _, _]) rfl) ?_
  refine jE rfl (cs := [.bool false, .bool false, .bool false, .bool false]) rfl rfl ?_
  intro b45
  refine (Q3) ?_
  have hM : ∀ w0 h, R w0 h → aF CK (dq p 1 c 2) ((es.length - 1) - 1) ((es.drop 1).take ((es.length - 1) - 1)) w0 h := fun w0 h hh => (hR w0 h hh).sub 1 (es.length - 1) c (by omega) (by omega) (by omega)
  refine (Q5) ?_
  refine oV (eb 1 (es.length - 1) c V.sB rfl ⟨_, rfl⟩ ⟨_, rfl⟩ rfl (by omega) (by omega) (by omega))<|(Q3) ?_
  refine gp (fun (i : Nat) (w : aa.Wk) => [(4, .pointer (some ⟨b45, 0, none⟩)), (48, .slice (dq p 1 c 2) ((es.length - 1) - 1) (c - 1)), (49, .int .i64 (((es.length - 1) - 1 : Nat) : Int)), (50, .int .i64 (i : Int))]) (fun (i : Nat) (w : aa.Wk) => ai b45 137 [.bool w.plte, .bool w.trns, .bool w.bU, .bool w.ka] :: R :: F) (fun (i : Nat) (w : aa.Wk) => i ≤ es.length - 2 ∧ aa.walk ((aa.mid (es.map Ce.ch)).drop i) w = aa.walk (aa.mid (es.map Ce.ch)) aa.wF) (fun (i : Nat) (w : aa.Wk) => es.length - 2 - i) (i2 (0) (aa.wF) ?_ (eG ln) (sub (aO .nil) ak)) ?_
  ·exact ⟨Nat.zero_le _, rfl⟩
  intro i w
  rintro ⟨hi, hwk⟩
  refine (Qm) ?_
  refine aC rfl (fun h51 => ?_) (fun h51 => ?_)
  ·refine (Qe) ?_
   have hmi := N1 (es := es) (i := i) (by omega)
   have hxo : ag.an (CK.g ((es.drop 1).take ((es.length - 1) - 1)) (i : Int)).k ∧ (CK.g ((es.drop 1).take ((es.length - 1) - 1)) (i : Int)).k.length < 500000000 := kp (fun x => ag.an x.k ∧ x.k.length < 500000000) (fun x hx => hok x (List.mem_of_mem_drop (List.mem_of_mem_take hx))) (by rw [List.length_take, List.length_drop]; omega)
   have hwn := aa.MZ (w := w) _ hmi
   refine (Qo) ?_
   refine oV (xI V.sB (by exact bM hM dm))<|oV (kT (c := (CK)) V.o0 rfl (by exact bM hM dm) (by omega) (by omega) rfl)<|(yo) ?_
   intro b6
   refine (rG)<|(Q6) ?_
   rcases (aa.P5 (aa.bS ⟨w.plte, w.trns, w.bU, w.ka⟩ (CK.g ((es.drop 1).take ((es.length - 1) - 1)) (i : Int)).ch).2) with hb | hb
   ·refine (Q5)<|(E4)<|(UN) ?_
    rintro _ _ ⟨rfl, rfl⟩
    rw [hb]
    refine gV TT 11 rfl (by omega) ?_
    have hb2 : (aa.bS w (CK.g ((es.drop 1).take ((es.length - 1) - 1)) (i : Int)).ch).2 = true := hb
    rw [hb2] at hwn
    exact j2 (i + 1) (aa.bS ⟨w.plte, w.trns, w.bU, w.ka⟩ (CK.g ((es.drop 1).take ((es.length - 1) - 1)) (i : Int)).ch).1 ⟨⟨by omega, hwn.symm.trans hwk⟩, by omega⟩ (eG ln) (sub (aq (.cons aw .nil)) bp)
   ·refine (Q5)<|(E4)<|(UN) ?_
    rintro _ _ ⟨rfl, rfl⟩
    rw [hb]
    refine (QI) ?_
    have hb2 : (aa.bS w (CK.g ((es.drop 1).take ((es.length - 1) - 1)) (i : Int)).ch).2 = false := hb
    rw [hb2] at hwn
    rw [← aa.k7 (aa.Si ho (hwk.symm.trans hwn))]
    exact af (av rfl) ⟨rfl, rfl⟩ (sub (.cons bg .nil) fP)
  ·refine (Qe) ?_
   rcases (aa.P5 w.bU) with hb | hb
   ·refine (Q9) ?_
    rw [aa.DE (by rw [aa.zK (by rw [List.length_map]; omega), List.length_map]; omega)] at hwk
    refine (Q4)<|(oT) ?_
    rw [hb]
    refine (QG) ?_
    rw [← aa.pJ ((aa.Fq ho hwk.symm).trans hb)]
    exact af (av rfl) ⟨rfl, rfl⟩ (sub (.cons aw .nil) bp)
   ·refine (Q9) ?_
    rw [aa.DE (by rw [aa.zK (by rw [List.length_map]; omega), List.length_map]; omega)] at hwk
    refine (Q4)<|(oT) ?_
    rw [hb]
    refine (Qp) ?_
    rw [← aa.k7 ((aa.Fq ho hwk.symm).trans hb)]
    exact af (av rfl) ⟨rfl, rfl⟩ (sub (.cons aw .nil) bp)
end Go.Proofs.YtmaiakpjgomnpaaGreat
namespace Go.Proofs.YtmaiakpjgomnpaaGreat
open Go.Sl
theorem V.Zd : ay Tryz.prog 64 = true := by kernel_rfl
theorem V.Y6 : ay Tryz.prog 65 = true := by kernel_rfl
theorem V.YG : ay Tryz.prog 66 = true := by kernel_rfl
theorem V.Cl : eC Tryz.prog 57 = some [(0, 1), (1, 1)] := by kernel_rfl
theorem V.om : sliceB Tryz.prog 59 = some (57, 2, 40) := by kernel_rfl
theorem V.AX : cu Tryz.prog 57 = some ([.string .empty, .slice none 0 0]) := by kernel_rfl
end Go.Proofs.YtmaiakpjgomnpaaGreat
namespace Go.Proofs.YtmaiakpjgomnpaaGreat
open Go.Sl 
attribute [local irreducible] ag.an aa.fO aa.fG aa.dp aa.fo aa.eL aa.gA aa.gn aa.first aa.cut aa.fu aa.ee aa.a8 aa.cZ aa.mK
abbrev aR : Ec Ce := ⟨57, 2, fun x => [.string (strOfNums x.k), .slice x.p x.d.length x.c], ⟨[], none, 0, []⟩, fun _ => rfl, fun _ => rfl⟩
set_option maxHeartbeats 1000000 in
theorem C6 (kk : List Int) (hk : ag.an kk) (hkl : kk.length < 500000000) (t : Bool) (ht : t = decide (aa.cZ kk)) : az Tryz.prog 65 [.string (strOfNums kk)] [] (aG fun v G => v = .bool t ∧ G = []) := by
 refine au [(0, _)] Tryz.func65 rfl Tryz.ntmps65 rfl rfl ?_
 intro w0 F
 refine (QO) ?_
 rcases (Classical.em (kk.length = 4)) with h4 | h4
 ·refine (Q4)<|(IG)<|(JO)<|(QG) ?_
  refine cB (fun (i : Nat) => [(0, .string (strOfNums kk)), (3, .int .i64 (i : Int))]) (fun (i : Nat) => F) (fun (i : Nat) => i ≤ 4 ∧ ∀ j, j < i → aa.jK (kk.getD j 0)) (fun (i : Nat) => 4 - i) (i1 (0) ?_ (gI ln) (sub .nil ak)) ?_
  ·exact ⟨Nat.zero_le _, fun j hj => by omega⟩
  intro i
  rintro ⟨hi, hall⟩
  refine rL TT 7 rfl ?_
  refine aC rfl (fun h9 => ?_) (fun h9 => ?_)
  ·refine rC TT 8 rfl<|(O3) ?_
   refine oV (qb (r := (aa.mK (kk.getD i 0))) rfl rfl (by unfold aa.mK; rfl))<|(Qi) ?_
   rcases (aa.o3 (hk.get i)) with ⟨h1, hn⟩ | ⟨h1, h2, hn⟩ | ⟨h1, h2, hl1⟩
   ·refine (Q5)<|(mg) ?_
    refine rO TT 18 rfl ?_
    obtain rfl : t = false := ht.trans (decide_eq_false (aa.uM hn (by omega)))
    exact af (av rfl) ⟨rfl, rfl⟩ (sub .nil ak)
   ·refine (Q5) ?_
    refine (QE) ?_
    refine (Q6) ?_
    refine (Q0) ?_
    refine (Qu) ?_
    refine (QI) ?_
    obtain rfl : t = false := ht.trans (decide_eq_false (aa.uM hn (by omega)))
    exact af (av rfl) ⟨rfl, rfl⟩ (sub .nil ak)
   ·refine (Q5) ?_
    refine (QE) ?_
    refine (Q6) ?_
    refine (Q0) ?_
    refine (Qr) ?_
    refine (x8) ?_
    refine j1 (i + 1) ?_ (gI ln) (sub .nil ak)
    exact ⟨⟨by omega, fun j hj => (Nat.lt_succ_iff_lt_or_eq.1 hj).elim (hall j) (fun e => e ▸ hl1)⟩, by omega⟩
  ·refine (o5) ?_
   obtain rfl : i = 4 := by omega
   obtain rfl : t = true := ht.trans (decide_eq_true ((aa.zB (by rw [h4]; exact hall)).2 h4))
   exact af (av rfl) ⟨rfl, rfl⟩ (sub .nil ak)
 ·refine (Q4)<|(IG) ?_
  refine oV (cQ (cL rfl rfl) (fun hh => h4 (by omega)))<|(Qg) ?_
  obtain rfl : t = false := ht.trans (decide_eq_false (aa.Uy h4))
  exact af (av rfl) ⟨rfl, rfl⟩ (sub .nil ak)
theorem Nj  : az Tryz.prog 64 [] [] (aG fun v G => v = .string (strOfNums aa.ee) ∧ G = []) := by
 refine au [] Tryz.func64 rfl Tryz.ntmps64 rfl rfl ?_
 intro w0 F
 exact rT TT 11 rfl<|af (av (show _ = some (.string (strOfNums aa.ee)) by unfold aa.ee; rfl)) ⟨rfl, rfl⟩ (sub .nil ak)
end Go.Proofs.YtmaiakpjgomnpaaGreat
namespace Go.Proofs.YtmaiakpjgomnpaaGreat
open Go.Sl
theorem V.sO : aW Tryz.prog 57 0 = some 0 := by kernel_rfl
theorem V.wu : aW Tryz.prog 57 1 = some 1 := by kernel_rfl
end Go.Proofs.YtmaiakpjgomnpaaGreat
namespace Go.Proofs.YtmaiakpjgomnpaaGreat
open Go.Sl 
attribute [local irreducible] ag.an aa.fO aa.fG aa.dp aa.fo aa.eL aa.gA aa.ba aa.aS aa.aY aa.a8 aa.bQ aa.cZ aa.cD aa.dC aa.kE aa.rP
theorem pO {es : List Ce} {i : Nat} (h : i < es.length) : (es.map Ce.ch)[i]? = some (aR.g es (i : Int)).ch := by
 rw [List.getElem?_map, List.getElem?_eq_getElem h]
 have : aR.g es (i : Int) = es[i] := aR.tb h
 rw [this]; rfl
theorem ml {es : List Ce} {i : Nat} (P : Ce → Prop) (h : ∀ x ∈ es, P x) (hi : i < es.length) : P (aR.g es (i : Int)) := by
 have : aR.g es (i : Int) = es[i] := aR.tb hi
 rw [this]
 exact h _ (List.getElem_mem hi)
end Go.Proofs.YtmaiakpjgomnpaaGreat
namespace Go.Proofs.YtmaiakpjgomnpaaGreat
open Go.Sl
theorem V.a145 : fT Tryz.prog 145 = some 6 := by kernel_rfl
theorem V.Su : fT Tryz.prog 181 = some 42 := by kernel_rfl
theorem V.fZ : fT Tryz.prog 26 = some 3 := by kernel_rfl
theorem V.H0 : iX Tryz.prog 181 = some (7, 145, 6) := by kernel_rfl
theorem V.pV : ay Tryz.prog 115 = true := by kernel_rfl
theorem V.MC : ay Tryz.prog 144 = true := by kernel_rfl
theorem V.yc : ay Tryz.prog 58 = true := by kernel_rfl
theorem V.EV : ay Tryz.prog 60 = true := by kernel_rfl
theorem V.Sh : aW Tryz.prog 145 4 = some 4 := by kernel_rfl
theorem V.RP : aW Tryz.prog 145 5 = some 5 := by kernel_rfl
theorem V.Jx : aW Tryz.prog 26 0 = some 0 := by kernel_rfl
theorem V.tx : aW Tryz.prog 26 1 = some 1 := by kernel_rfl
theorem V.sK : aW Tryz.prog 26 2 = some 2 := by kernel_rfl
theorem V.T9 : eC Tryz.prog 145 = some [(0, 1), (1, 1), (2, 1), (3, 1), (4, 1), (5, 1)] := by kernel_rfl
theorem V.uo : eC Tryz.prog 26 = some [(0, 1), (1, 1), (2, 1)] := by kernel_rfl
theorem V.r8 : eC Tryz.prog 67 = some [(0, 1), (1, 1), (2, 1), (3, 1), (4, 1), (5, 1)] := by kernel_rfl
theorem V.vW : bZ Tryz.prog 24 = true := by kernel_rfl
theorem V.uf : sliceB Tryz.prog 140 = some (145, 6, 48) := by kernel_rfl
theorem V.gk : sliceB Tryz.prog 24 = some (62, 1, 2) := by kernel_rfl
theorem V.y8 : sliceB Tryz.prog 64 = some (67, 6, 48) := by kernel_rfl
theorem V.z145 : cu Tryz.prog 145 = some ([.int .i64 0, .int .i64 0, .int .i64 0, .int .i64 0, .int .i64 0, .int .i64 0]) := by kernel_rfl
theorem V.Ru : cu Tryz.prog 181 = some (List.replicate 42 (.int .i64 0)) := by kernel_rfl
theorem V.vn : cu Tryz.prog 26 = some ([.int .i64 0, .int .i64 0, .slice none 0 0]) := by kernel_rfl
theorem V.DW : cu Tryz.prog 62 = some ([.int .u16 0]) := by kernel_rfl
theorem V.oW : cu Tryz.prog 67 = some ([.int .i64 0, .int .i64 0, .int .i64 0, .int .i64 0, .int .i64 0, .int .i64 0]) := by kernel_rfl
end Go.Proofs.YtmaiakpjgomnpaaGreat
namespace Go.Proofs.YtmaiakpjgomnpaaGreat
open Go.Sl 
attribute [local irreducible] aa.aT aa.many aa.de aa.dH aa.td aa.pH aa.ev aa.ek
section
variable {C : Ctx} {E : Env} {L : List ad}
theorem S3 {t T n b T' : Nat} {cs : List Value} (hs : fT C.P T = some n) (h1 : E.get t = some (.pointer (some ⟨b, 0, none⟩))) (hm : ai b T' cs ∈ L) (hn : cs.length = n) : ks C #[.cell t T] E L (.agg cs.toArray) := fun fn a w hr ha hi => by
 obtain ⟨g1, g2⟩ := kL hs w
 obtain ⟨F, hF⟩ := hi.mem hm
 have := run_loadCells_list (P := C.P) w ⟨b, 0, none⟩ cs (fun j v hj => by rw [Addr.eO, hF.hJ, ← hj]; simp)
 rw [hn] at this
 simp [results, hr, ha.get _ _ h1, asAddr, loadVar, g1, g2, this]
end
set_option maxHeartbeats 1000000 in
theorem my (w h : Int) : az Tryz.prog 58 [.int .i64 w, .int .i64 h] [] (aG fun v G => v = .int .i64 (aa.aT w h) ∧ G = []) := by
 refine au [(0, _), (1, _)] Tryz.func58 rfl Tryz.ntmps58 rfl rfl ?_
 intro w0 F
 refine rT TT 7 rfl ?_
 rcases (aa.BE w h) with ⟨a0, hs⟩ | ⟨a0, a1, hs⟩ | ⟨a0, a1, a2, hs⟩ | ⟨a0, a1, a2, a3, hs⟩ | ⟨a0, a1, a2, a3, a4, hs⟩ | ⟨a0, a1, a2, a3, a4, hs⟩
 ·refine (Q5)<|(mg) ?_
  exact rO TT 16 rfl<|af (av rfl) ⟨congrArg (Value.int .i64) hs.symm, rfl⟩ (sub .nil ak)
 ·refine (Q5) ?_
  refine (QE) ?_
  refine (Q6) ?_
  refine (Q0) ?_
  refine (mg) ?_
  refine (Qq) ?_
  exact af (av rfl) ⟨congrArg (Value.int .i64) hs.symm, rfl⟩ (sub .nil ak)
 ·refine (Q5) ?_
  refine (QE) ?_
  refine (Q6) ?_
  refine (Q0) ?_
  refine (QE) ?_
  refine (Qk) ?_
  refine (Qu) ?_
  refine rO TT 22 rfl ?_
  exact af (av rfl) ⟨congrArg (Value.int .i64) hs.symm, rfl⟩ (sub .nil ak)
 ·refine (Q5) ?_
  refine (QE) ?_
  refine (Q6) ?_
  refine (Q0) ?_
  refine (QE) ?_
  refine (Qk) ?_
  refine (Qr) ?_
  refine (Q6) ?_
  refine (Q0) ?_
  refine (Qu) ?_
  refine rO TT 19 rfl ?_
  exact af (av rfl) ⟨congrArg (Value.int .i64) hs.symm, rfl⟩ (sub .nil ak)
 ·refine rC TT 3 rfl ?_
  refine oV (bV (dV rfl rfl) (by omega)) ?_
  refine rO TT 2 rfl ?_
  refine dg rfl ?_
  refine oV (bV (dV rfl rfl) (by omega)) ?_
  refine rO TT 8 rfl ?_
  refine oV (bV (dz rfl rfl) (by omega)) ?_
  refine rO TT 2 rfl ?_
  refine dg rfl ?_
  refine oV (bV (dz rfl rfl) (by omega)) ?_
  refine rO TT 4 rfl ?_
  refine dg rfl ?_
  refine oV (jY (r := 16384 / h) rfl rfl (by omega) (aa.qn (by omega))) ?_
  refine dg rfl ?_
  refine oV (cQ (dz rfl rfl) (by omega)) ?_
  refine rO TT 13 rfl ?_
  exact af (av rfl) ⟨congrArg (Value.int .i64) hs.symm, rfl⟩ (sub .nil ak)
 ·refine rC TT 3 rfl ?_
  refine oV (bV (dV rfl rfl) (by omega)) ?_
  refine rO TT 2 rfl ?_
  refine dg rfl ?_
  refine oV (bV (dV rfl rfl) (by omega)) ?_
  refine rO TT 8 rfl ?_
  refine oV (bV (dz rfl rfl) (by omega)) ?_
  refine rO TT 2 rfl ?_
  refine dg rfl ?_
  refine oV (bV (dz rfl rfl) (by omega)) ?_
  refine rO TT 4 rfl ?_
  refine dg rfl ?_
  refine oV (jY (r := 16384 / h) rfl rfl (by omega) (aa.qn (by omega))) ?_
  refine dg rfl ?_
  refine oV (bV (dz rfl rfl) (by omega)) ?_
  refine rO TT 14 rfl ?_
  exact af (av rfl) ⟨congrArg (Value.int .i64) hs.symm, rfl⟩ (sub .nil ak)
set_option maxHeartbeats 1000000 in
theorem pM (w h : Int) : az Tryz.prog 60 [.int .i64 w, .int .i64 h] [] (aG fun v G => v = .int .i64 (aa.aT w h) ∧ G = []) := by
 refine au [(0, _), (1, _)] Tryz.func60 rfl Tryz.ntmps60 rfl rfl ?_
 intro w0 F
 refine rT TT 7 rfl ?_
 rcases (aa.BE w h) with ⟨a0, hs⟩ | ⟨a0, a1, hs⟩ | ⟨a0, a1, a2, hs⟩ | ⟨a0, a1, a2, a3, hs⟩ | ⟨a0, a1, a2, a3, a4, hs⟩ | ⟨a0, a1, a2, a3, a4, hs⟩
 ·refine (Q5)<|(mg) ?_
  exact rO TT 16 rfl<|af (av rfl) ⟨congrArg (Value.int .i64) hs.symm, rfl⟩ (sub .nil ak)
 ·refine (Q5) ?_
  refine (QE) ?_
  refine (Q6) ?_
  refine (Q0) ?_
  refine (mg) ?_
  refine (Qq) ?_
  exact af (av rfl) ⟨congrArg (Value.int .i64) hs.symm, rfl⟩ (sub .nil ak)
 ·refine (Q5) ?_
  refine (QE) ?_
  refine (Q6) ?_
  refine (Q0) ?_
  refine (QE) ?_
  refine (Qk) ?_
  refine (Qu) ?_
  refine rO TT 22 rfl ?_
  exact af (av rfl) ⟨congrArg (Value.int .i64) hs.symm, rfl⟩ (sub .nil ak)
 ·refine (Q5) ?_
  refine (QE) ?_
  refine (Q6) ?_
  refine (Q0) ?_
  refine (QE) ?_
  refine (Qk) ?_
  refine (Qr) ?_
  refine (Q6) ?_
  refine (Q0) ?_
  refine (Qu) ?_
  refine rO TT 19 rfl ?_
  exact af (av rfl) ⟨congrArg (Value.int .i64) hs.symm, rfl⟩ (sub .nil ak)
 ·refine rC TT 3 rfl ?_
  refine oV (bV (dV rfl rfl) (by omega)) ?_
  refine rO TT 2 rfl ?_
  refine dg rfl ?_
  refine oV (bV (dV rfl rfl) (by omega)) ?_
  refine rO TT 8 rfl ?_
  refine oV (bV (dz rfl rfl) (by omega)) ?_
  refine rO TT 2 rfl ?_
  refine dg rfl ?_
  refine oV (bV (dz rfl rfl) (by omega)) ?_
  refine rO TT 4 rfl ?_
  refine dg rfl ?_
  refine oV (jY (r := 16384 / h) rfl rfl (by omega) (aa.qn (by omega))) ?_
  refine dg rfl ?_
  refine oV (cQ (dz rfl rfl) (by omega)) ?_
  refine rO TT 13 rfl ?_
  exact af (av rfl) ⟨congrArg (Value.int .i64) hs.symm, rfl⟩ (sub .nil ak)
 ·refine rC TT 3 rfl ?_
  refine oV (bV (dV rfl rfl) (by omega)) ?_
  refine rO TT 2 rfl ?_
  refine dg rfl ?_
  refine oV (bV (dV rfl rfl) (by omega)) ?_
  refine rO TT 8 rfl ?_
  refine oV (bV (dz rfl rfl) (by omega)) ?_
  refine rO TT 2 rfl ?_
  refine dg rfl ?_
  refine oV (bV (dz rfl rfl) (by omega)) ?_
  refine rO TT 4 rfl ?_
  refine dg rfl ?_
  refine oV (jY (r := 16384 / h) rfl rfl (by omega) (aa.qn (by omega))) ?_
  refine dg rfl ?_
  refine oV (bV (dz rfl rfl) (by omega)) ?_
  refine rO TT 14 rfl ?_
  exact af (av rfl) ⟨congrArg (Value.int .i64) hs.symm, rfl⟩ (sub .nil ak)
set_option maxHeartbeats 1000000 in
theorem TX (w h : Int) : az Tryz.prog 85 [.int .i64 w, .int .i64 h] [] (aG fun v G => (aa.aT w h ≠ 0 ∧ v = .tuple #[.agg #[.int .i64 0, .int .i64 0, .slice none 0 0], .int .i64 (aa.aT w h)] ∧ G = []) ∨ (aa.aT w h = 0 ∧ ∃ b, v = .tuple #[.agg #[.int .i64 w, .int .i64 h, .slice (some ⟨b, 0, none⟩) ((4 * w * h).toNat) ((4 * w * h).toNat)], .int .i64 0] ∧ G = [Row (aD 62 .u16) (some ⟨b, 0, none⟩) ((4 * w * h).toNat) ((4 * w * h).toNat) (List.replicate (4 * w * h).toNat (aD 62 .u16).d)])) := by
 refine au [(0, _), (1, _)] Tryz.func85 rfl Tryz.ntmps85 rfl rfl ?_
 intro w0 F
 refine (QD)<|(vp) ?_
 intro b4
 refine rO TT 8 rfl ?_
 refine aj (my w h) V.yc  rfl .nil rfl ?_
 rintro _ _ ⟨rfl, rfl⟩
 refine (Qi) ?_
 rcases (Classical.em (aa.aT w h = 0)) with hs | hs
 ·refine (Q5)<|(vX)<|(Q1) ?_
  have h4 := aa.qv hs
  have h1 := aa.il hs
  refine jW TT 6 rfl (by omega) ?_
  refine oV (cY (v := .int .i64 ((4 * w * h).toNat : Int)) (gB rfl rfl wI) (by congr 1; omega)) ?_
  refine lR ((4 * w * h).toNat) ((4 * w * h).toNat) (aD 62 .u16) rfl rfl V.gk V.DW rfl rfl rfl rfl (by omega) (by omega) rfl rfl ?_
  intro b20
  refine oV (cn V.uo V.vn rfl (cs := [.int .i64 w, .int .i64 h, .slice (some ⟨b20, 0, none⟩) ((4 * w * h).toNat) ((4 * w * h).toNat)]) rfl) ?_
  refine cy (bb V.fZ rfl rfl (us := [_, _, _]) rfl rfl (by exact sR) (by exact Nat.le_of_ble_eq_true rfl) rfl) ?_
  refine rO TT 4 rfl ?_
  exact af (dP V.fZ rfl dm rfl rfl) (.inr ⟨hs, _, rfl, rfl⟩) (sub (aq .nil) bp)
 ·refine rC TT 3 rfl ?_
  refine oV (cQ (cL rfl rfl) (by omega)) ?_
  refine rO TT 5 rfl ?_
  refine oV (cn V.uo V.vn rfl (cs := [.int .i64 0, .int .i64 0, .slice none 0 0]) rfl) ?_
  refine oV (fY rfl) ?_
  refine cy (bb V.fZ rfl rfl (us := [_, _, _]) rfl rfl (by exact fI) (by exact Nat.le_of_ble_eq_true rfl) rfl) ?_
  refine rO TT 5 rfl ?_
  exact af (dP V.fZ rfl aB rfl rfl) (.inl ⟨hs, rfl, rfl⟩) (sub .nil bp)
set_option maxHeartbeats 1000000 in
theorem SZ (w h : Int) : az Tryz.prog 35 [.int .i64 w, .int .i64 h] [] (aG fun v G => (aa.aT w h ≠ 0 ∧ v = .tuple #[.agg #[.int .i64 0, .int .i64 0, .slice none 0 0], .int .i64 (aa.aT w h)] ∧ G = []) ∨ (aa.aT w h = 0 ∧ ∃ b, v = .tuple #[.agg #[.int .i64 w, .int .i64 h, .slice (some ⟨b, 0, none⟩) ((4 * w * h).toNat) ((4 * w * h).toNat)], .int .i64 0] ∧ G = [Row (aD 62 .u16) (some ⟨b, 0, none⟩) ((4 * w * h).toNat) ((4 * w * h).toNat) (List.replicate (4 * w * h).toNat (aD 62 .u16).d)])) := by
 refine au [(0, _), (1, _)] Tryz.func35 rfl Tryz.ntmps35 rfl rfl ?_
 intro w0 F
 refine (QD)<|(vp) ?_
 intro b4
 refine rO TT 7 rfl ?_
 refine aj (pM w h) V.EV  rfl .nil rfl ?_
 rintro _ _ ⟨rfl, rfl⟩
 refine (Qi) ?_
 rcases (Classical.em (aa.aT w h = 0)) with hs | hs
 ·refine (Q4)<|(vX)<|(Q1) ?_
  have h4 := aa.qv hs
  have h1 := aa.il hs
  refine jW TT 6 rfl (by omega) ?_
  refine oV (cY (v := .int .i64 ((4 * w * h).toNat : Int)) (gB rfl rfl wI) (by congr 1; omega)) ?_
  refine lR ((4 * w * h).toNat) ((4 * w * h).toNat) (aD 62 .u16) rfl rfl V.gk V.DW rfl rfl rfl rfl (by omega) (by omega) rfl rfl ?_
  intro b20
  refine oV (cn V.uo V.vn rfl (cs := [.int .i64 w, .int .i64 h, .slice (some ⟨b20, 0, none⟩) ((4 * w * h).toNat) ((4 * w * h).toNat)]) rfl) ?_
  refine cy (bb V.fZ rfl rfl (us := [_, _, _]) rfl rfl (by exact sR) (by exact Nat.le_of_ble_eq_true rfl) rfl) ?_
  refine rO TT 4 rfl ?_
  exact af (dP V.fZ rfl dm rfl rfl) (.inr ⟨hs, _, rfl, rfl⟩) (sub (aq .nil) bp)
 ·refine (Q4)<|(Rh)<|(Q3)<|(Ze)<|(Q7)<|(Df)<|(Q3) ?_
  exact af (dP V.fZ rfl aB rfl rfl) (.inl ⟨hs, rfl, rfl⟩) (sub .nil bp)
set_option maxHeartbeats 1000000 in
theorem S6 (w h : Int) (q : Option Addr) (n c : Nat) (t : Bool) (ht : t = decide (aa.aT w h = 0 ∧ (n : Int) = 4 * w * h)) : az Tryz.prog 67 [.agg #[.int .i64 w, .int .i64 h, .slice q n c]] [] (aG fun v G => v = .bool t ∧ G = []) := by
 refine au [(0, _)] Tryz.func67 rfl Tryz.ntmps67 rfl rfl ?_
 intro w0 F
 refine (rF) ?_
 intro b1
 refine (Qi) ?_
 rcases (Classical.em (aa.aT w h = 0)) with hs | hs
 ·refine rC TT 3 rfl ?_
  refine oV (aA V.s3 rfl aB rfl) ?_
  refine oV (bd V.tx rfl) ?_
  refine oV (aA V.s3 rfl aB rfl) ?_
  refine aj (my w h) V.yc  rfl .nil rfl ?_
  rintro _ _ ⟨rfl, rfl⟩
  refine (Qz) ?_
  refine (Q6) ?_
  refine (Q0) ?_
  refine (DS) ?_
  refine (Q6) ?_
  refine (Q0) ?_
  refine (Qf) ?_
  have h4 := aa.qv hs
  have h1 := aa.il hs
  refine (ny)<|(Q0)<|(Qf)<|(zF) ?_
  (rw [show decide ((n : Int) = 4 * w * h) = t from by rw [ht]; congr 1; simp [hs]]; exact af (G := []) (av rfl) ⟨rfl, rfl⟩ (sub .nil bp))
 ·refine rC TT 3 rfl ?_
  refine oV (aA V.s3 rfl aB rfl) ?_
  refine oV (bd V.tx rfl) ?_
  refine oV (aA V.s3 rfl aB rfl) ?_
  refine aj (my w h) V.yc  rfl .nil rfl ?_
  rintro _ _ ⟨rfl, rfl⟩
  refine (QB) ?_
  refine rO TT 16 rfl ?_
  (obtain rfl : t = false := by rw [ht]; exact decide_eq_false (fun hh => hs hh.1)
   exact af (av rfl) ⟨rfl, rfl⟩ (sub .nil bp))
set_option maxHeartbeats 1000000 in
theorem oy (w h : Int) (q : Option Addr) (n c : Nat) (t : Bool) (ht : t = decide (aa.aT w h = 0 ∧ (n : Int) = 4 * w * h)) : az Tryz.prog 21 [.agg #[.int .i64 w, .int .i64 h, .slice q n c]] [] (aG fun v G => v = .bool t ∧ G = []) := by
 refine au [(0, _)] Tryz.func21 rfl Tryz.ntmps21 rfl rfl ?_
 intro w0 F
 refine (rF) ?_
 intro b1
 refine (Qi) ?_
 rcases (Classical.em (aa.aT w h = 0)) with hs | hs
 ·refine rC TT 3 rfl ?_
  refine oV (aA V.s3 rfl aB rfl) ?_
  refine oV (bd V.tx rfl) ?_
  refine oV (aA V.s3 rfl aB rfl) ?_
  refine aj (pM w h) V.EV  rfl .nil rfl ?_
  rintro _ _ ⟨rfl, rfl⟩
  refine (Qz) ?_
  refine (Q6) ?_
  refine (Q0) ?_
  refine (DS) ?_
  refine (Q6) ?_
  refine (Q0) ?_
  refine (Qf) ?_
  have h4 := aa.qv hs
  have h1 := aa.il hs
  refine (ny)<|(Q0)<|(Qf)<|(zF) ?_
  (rw [show decide ((n : Int) = 4 * w * h) = t from by rw [ht]; congr 1; simp [hs]]; exact af (G := []) (av rfl) ⟨rfl, rfl⟩ (sub .nil bp))
 ·refine rC TT 3 rfl ?_
  refine oV (aA V.s3 rfl aB rfl) ?_
  refine oV (bd V.tx rfl) ?_
  refine oV (aA V.s3 rfl aB rfl) ?_
  refine aj (pM w h) V.EV  rfl .nil rfl ?_
  rintro _ _ ⟨rfl, rfl⟩
  refine (QB) ?_
  refine rO TT 16 rfl ?_
  (obtain rfl : t = false := by rw [ht]; exact decide_eq_false (fun hh => hs hh.1)
   exact af (av rfl) ⟨rfl, rfl⟩ (sub .nil bp))
abbrev PK : Ec aa.Ps := ⟨145, 6, fun p => [.int .i64 p.x, .int .i64 p.y, .int .i64 p.dx, .int .i64 p.dy, .int .i64 p.w, .int .i64 p.h], ⟨0, 0, 0, 0, 0, 0⟩, fun _ => rfl, fun _ => rfl⟩
abbrev jH : Ec aa.Ps := ⟨67, 6, fun p => [.int .i64 p.x, .int .i64 p.y, .int .i64 p.dx, .int .i64 p.dy, .int .i64 p.w, .int .i64 p.h], ⟨0, 0, 0, 0, 0, 0⟩, fun _ => rfl, fun _ => rfl⟩
set_option maxHeartbeats 1000000 in
theorem xW (n : Int) (t : Bool) (ht : t = decide (0 ≤ n ∧ n ≤ 256)) : az Tryz.prog 116 [.int .i64 n] [] (aG fun v G => v = .bool t ∧ G = []) := by
 refine au [(0, _)] Tryz.func116 rfl Tryz.ntmps116 rfl rfl ?_
 intro w0 F
 refine (QO) ?_
 rcases (Classical.em (0 ≤ n)) with h0 | h0
 ·refine (Q5)<|(QM)<|(Qk) ?_
  (rw [show decide (n ≤ 256) = t from by rw [ht]; congr 1; simp [h0]]; exact af (G := []) (av rfl) ⟨rfl, rfl⟩ (sub .nil ak))
 ·refine (Q5)<|(m9)<|(Qk) ?_
  (obtain rfl : t = false := by rw [ht]; exact decide_eq_false (fun hh => h0 hh.1)
   exact af (av rfl) ⟨rfl, rfl⟩ (sub .nil ak))
set_option maxHeartbeats 1000000 in
theorem Ew (frm step en : Int) (hs : step = 1 ∨ step = 2 ∨ step = 4 ∨ step = 8) (hf : 0 ≤ frm ∧ frm ≤ 8) (he : 0 ≤ en ∧ en ≤ 256) : az Tryz.prog 144 [.int .i64 frm, .int .i64 step, .int .i64 en] [] (aG fun v G => v = .int .i64 (aa.many frm step en) ∧ G = []) := by
 refine au [(0, _), (1, _), (2, _)] Tryz.func144 rfl Tryz.ntmps144 rfl rfl ?_
 intro w0 F
 refine (QO) ?_
 rcases (Classical.em (en ≤ frm)) with h0 | h0
 ·refine (Qe)<|(QM)<|(Qg) ?_
  rw [← aa.T0 hs frm h0]
  exact af (av rfl) ⟨rfl, rfl⟩ (sub .nil ak)
 ·refine (Qe)<|(m9) ?_
  refine gV TT 14 rfl (by omega)<|oV (jY (r := (en - frm + step - 1) / step) rfl rfl (by omega) (rZ (m := en - frm + step - 1) (n := step) (by omega) (by omega) (by omega)))<|(Q8) ?_
  rw [← aa.Jq h0]
  exact af (av rfl) ⟨rfl, rfl⟩ (sub .nil ak)
set_option maxHeartbeats 1000000 in
theorem qm (x y dx dy w h : Int) (hx : 0 ≤ x ∧ x ≤ 8) (hy : 0 ≤ y ∧ y ≤ 8) (hdx : dx = 1 ∨ dx = 2 ∨ dx = 4 ∨ dx = 8) (hdy : dy = 1 ∨ dy = 2 ∨ dy = 4 ∨ dy = 8) (hw : 0 ≤ w ∧ w ≤ 256) (hh : 0 ≤ h ∧ h ≤ 256) : az Tryz.prog 115 [.int .i64 x, .int .i64 y, .int .i64 dx, .int .i64 dy, .int .i64 w, .int .i64 h] [] (aG fun v G => v = .agg #[.int .i64 x, .int .i64 y, .int .i64 dx, .int .i64 dy, .int .i64 (aa.many x dx w), .int .i64 (aa.many y dy h)] ∧ G = []) := by
 refine au [(0, _), (1, _), (2, _), (3, _), (4, _), (5, _)] Tryz.func115 rfl Tryz.ntmps115 rfl rfl ?_
 intro w0 F
 refine (QD) ?_
 refine cS V.z145 rfl ?_
 intro b12
 refine (Qp) ?_
 refine aj (Ew x dx w hdx hx hw) V.MC  rfl .nil rfl ?_
 rintro _ _ ⟨rfl, rfl⟩
 refine (Qi) ?_
 refine aj (Ew y dy h hdy hy hh) V.MC  rfl .nil rfl ?_
 rintro _ _ ⟨rfl, rfl⟩
 refine oV (cn V.T9 V.z145 rfl (cs := [.int .i64 x, .int .i64 y, .int .i64 dx, .int .i64 dy, .int .i64 (aa.many x dx w), .int .i64 (aa.many y dy h)]) (by kernel_rfl)) ?_
 refine cy (bb V.a145 rfl rfl (us := [_, _, _, _, _, _]) rfl rfl (by exact fI) (by exact Nat.le_of_ble_eq_true rfl) rfl) ?_
 refine rO TT 3 rfl ?_
 exact af (S3 V.a145 rfl aB rfl) ⟨rfl, rfl⟩ (sub .nil bp)
set_option maxHeartbeats 1000000 in
theorem Lh (w h : Int) (hs : aa.aT w h = 0) : az Tryz.prog 81 [.int .i64 w, .int .i64 h] [] (aG fun v G => ∃ p c, v = .slice p (aa.whole w h).length c ∧ G = [Row PK p (aa.whole w h).length c (aa.whole w h)]) := by
 refine au [(0, _), (1, _)] Tryz.func81 rfl Tryz.ntmps81 rfl rfl ?_
 intro w0 F
 have hsd := aa.il hs
 have hw : 0 ≤ w ∧ w ≤ 256 := by omega
 have hh : 0 ≤ h ∧ h ≤ 256 := by omega
 refine rT TT 10 rfl ?_
 refine aj (my w h) V.yc  rfl .nil rfl ?_
 rintro _ _ ⟨rfl, rfl⟩
 rw [hs]
 refine (vX)<|(Qn) ?_
 refine aj (qm 0 0 1 1 w h (by decide) (by decide) (by decide) (by decide) hw hh) V.pV  rfl .nil rfl ?_
 rintro _ _ ⟨rfl, rfl⟩
 rw [aa.many1 hsd.1, aa.many1 hsd.2.2.1]
 refine cH (PK) [⟨0, 0, 1, 1, w, h⟩] V.uf V.z145 rfl rfl rfl (by kernel_rfl) rfl rfl ?_
 intro b12
 refine rO TT 4 rfl ?_
 exact af (av rfl) ⟨_, _, rfl, rfl⟩ (sub (aq .nil) ak)
set_option maxHeartbeats 1000000 in
theorem Hl (w h : Int) (hs : aa.aT w h = 0) : az Tryz.prog 82 [.int .i64 w, .int .i64 h] [] (aG fun v G => ∃ p c, v = .slice p (aa.aE w h).length c ∧ G = [Row PK p (aa.aE w h).length c (aa.aE w h)]) := by
 refine au [(0, _), (1, _)] Tryz.func82 rfl Tryz.ntmps82 rfl rfl ?_
 intro w0 F
 have hsd := aa.il hs
 have hw : 0 ≤ w ∧ w ≤ 256 := by omega
 have hh : 0 ≤ h ∧ h ≤ 256 := by omega
 obtain ⟨Z, hZ⟩ : ∃ Z, Z = (aa.ev w h).flatMap PK.e := ⟨_, rfl⟩
 have hZl : Z.length = 42 := by rw [hZ]; unfold aa.ev; rfl
 have hZ1 : Z.all Value.oneCell' = true := by rw [hZ]; exact mh PK _
 refine rT TT 10 rfl ?_
 refine aj (my w h) V.yc  rfl .nil rfl ?_
 rintro _ _ ⟨rfl, rfl⟩
 rw [hs]
 refine (vX)<|(Qn) ?_
 refine aj (qm 0 0 8 8 w h (by decide) (by decide) (by decide) (by decide) hw hh) V.pV  rfl .nil rfl ?_
 rintro _ _ ⟨rfl, rfl⟩
 refine (Q6) ?_
 refine aj (qm 4 0 8 8 w h (by decide) (by decide) (by decide) (by decide) hw hh) V.pV  rfl .nil rfl ?_
 rintro _ _ ⟨rfl, rfl⟩
 refine (Q6) ?_
 refine aj (qm 0 4 4 8 w h (by decide) (by decide) (by decide) (by decide) hw hh) V.pV  rfl .nil rfl ?_
 rintro _ _ ⟨rfl, rfl⟩
 refine (Q6) ?_
 refine aj (qm 2 0 4 4 w h (by decide) (by decide) (by decide) (by decide) hw hh) V.pV  rfl .nil rfl ?_
 rintro _ _ ⟨rfl, rfl⟩
 refine (Q6) ?_
 refine aj (qm 0 2 2 4 w h (by decide) (by decide) (by decide) (by decide) hw hh) V.pV  rfl .nil rfl ?_
 rintro _ _ ⟨rfl, rfl⟩
 refine (Q6) ?_
 refine aj (qm 1 0 2 2 w h (by decide) (by decide) (by decide) (by decide) hw hh) V.pV  rfl .nil rfl ?_
 rintro _ _ ⟨rfl, rfl⟩
 refine (Q6) ?_
 refine aj (qm 0 1 1 2 w h (by decide) (by decide) (by decide) (by decide) hw hh) V.pV  rfl .nil rfl ?_
 rintro _ _ ⟨rfl, rfl⟩
 refine oV (jx V.H0 V.Ru rfl (cs := Z) (by rw [hZ]; kernel_rfl))<|cS V.Ru rfl ?_
 intro b5
 refine cy (bb V.Su rfl rfl (us := Z) (cs' := Z) hZ1 hZl (by exact fI) (by decide) (by rw [List.take_zero, List.nil_append, List.drop_eq_nil_of_le (by decide), List.append_nil]))<|(Qg) ?_
 refine oV (dv V.Su rfl aB (vs := Z) hZl (by rw [List.drop_zero, ← hZl, List.take_length]))<|(Q8) ?_
 rw [show ((6 : Nat), Value.slice none 0 0) = (6, .slice none (aa.ek w h 0).length 0) from by rw [aa.sY]; rfl]
 refine iT (Row PK none (aa.ek w h 0).length 0 (aa.ek w h 0)) (by rw [aa.sY]; exact Row.nil _ _ _) ?_
 refine fN (fun (i : Nat) (p6 : Option Addr) (c6 : Nat) => [(6, .slice p6 (aa.ek w h i).length c6), (35, .agg Z.toArray), (36, .int .i64 (i : Int))]) (fun (i : Nat) (p6 : Option Addr) (c6 : Nat) => Row PK p6 (aa.ek w h i).length c6 (aa.ek w h i) :: F) (fun (i : Nat) (p6 : Option Addr) (c6 : Nat) => i ≤ 7) (fun (i : Nat) (p6 : Option Addr) (c6 : Nat) => 7 - i) (i3 (0) (none) (0) ?_ (gK ln) (sub (aq .nil) bp)) ?_
 ·exact Nat.zero_le _
 intro i p6 c6
 rintro hi
 have hpl := aa.za w h i
 obtain ⟨x, hx⟩ : ∃ x, x = (PK.g (aa.ev w h) (i : Int)) := ⟨_, rfl⟩
 have hx2 : (aa.ev w h).getD i ⟨0, 0, 0, 0, 0, 0⟩ = x := hx.symm
 refine (Qm) ?_
 refine aC rfl (fun h37 => ?_) (fun h37 => ?_)
 ·refine (Qc) ?_
  refine oV (cY (v := .agg #[.int .i64 x.x, .int .i64 x.y, .int .i64 x.dx, .int .i64 x.dy, .int .i64 x.w, .int .i64 x.h]) (LD PK (aa.ev w h) i V.H0 V.a145 rfl hZ rfl rfl (by omega) (by rw [aa.Ht]; omega) rfl) (by rw [← hx]))<|cS V.z145 rfl ?_
  intro b8
  refine (Sp)<|(Q6) ?_
  rcases (aa.DX x) with ⟨q1, q2⟩ | ⟨q1, q3, q2⟩ | ⟨q1, q3, q2⟩
  ·refine (tZ)<|(Qr) ?_
   refine gV TT 15 rfl (by omega) ?_
   (rw [aa.tP (i := i) (by omega) hx2 q2]; exact j3 (i + 1) _ _ ⟨by omega, by omega⟩ (gK ln) (sub (.cons aw .nil) bp))
  ·refine (tZ)<|(Qu)<|(Ql)<|(QP)<|(Qr) ?_
   refine gV TT 11 rfl (by omega) ?_
   (rw [aa.tP (i := i) (by omega) hx2 q2]; exact j3 (i + 1) _ _ ⟨by omega, by omega⟩ (gK ln) (sub (.cons aw .nil) bp))
  ·refine (tZ)<|(Qu)<|(Ql)<|(QP)<|(Qu)<|(Q1)<|(NW) ?_
   refine cH (PK) [x] V.uf V.z145 rfl rfl rfl (by kernel_rfl) rfl rfl ?_
   intro b49
   refine eh (c := (PK)) V.uf V.z145 rfl rfl rfl rfl bg (own aB) (by omega) rfl ?_
   intro p50 c50
   refine (QQ) ?_
   (have hl2 : (aa.ek w h i).length + 1 = (aa.ek w h (i + 1)).length := (congrArg List.length (aa.tA (i := i) (p := x) (by omega) hx2 q2)).symm ▸ (by simp)
    rw [aa.tA (i := i) (p := x) (by omega) hx2 q2, hl2]
    exact j3 (i + 1) _ _ ⟨by omega, by omega⟩ (gK ln) (sub (aq .nil) fP))
 ·refine (Qc) ?_
  obtain rfl : i = 7 := by omega
  rw [aa.FC]
  refine (Qc) ?_
  exact af (av rfl) ⟨_, _, rfl, rfl⟩ (sub (aq .nil) ak)
end Go.Proofs.YtmaiakpjgomnpaaGreat
namespace Go.Proofs.YtmaiakpjgomnpaaGreat
open Go.Sl
theorem V.IV : fT Tryz.prog 67 = some 6 := by kernel_rfl
theorem V.GS : ay Tryz.prog 116 = true := by kernel_rfl
theorem V.Mu : ay Tryz.prog 117 = true := by kernel_rfl
theorem V.Xa : ay Tryz.prog 129 = true := by kernel_rfl
theorem V.pZ : ay Tryz.prog 19 = true := by kernel_rfl
theorem V.Vb : ay Tryz.prog 94 = true := by kernel_rfl
theorem V.TM : aW Tryz.prog 67 0 = some 0 := by kernel_rfl
theorem V.TC : aW Tryz.prog 67 1 = some 1 := by kernel_rfl
theorem V.Zp : aW Tryz.prog 67 2 = some 2 := by kernel_rfl
theorem V.Zx : aW Tryz.prog 67 3 = some 3 := by kernel_rfl
theorem V.Zn : aW Tryz.prog 67 4 = some 4 := by kernel_rfl
theorem V.Zm : aW Tryz.prog 67 5 = some 5 := by kernel_rfl
end Go.Proofs.YtmaiakpjgomnpaaGreat
namespace Go.Proofs.YtmaiakpjgomnpaaGreat
open Go.Sl 
attribute [local irreducible] aa.aT aa.many aa.de aa.dH aa.td aa.pH aa.ev aa.ek aa.parts aa.deep aa.ua
set_option maxHeartbeats 1000000 in
theorem Js (w bits : Int) (hw : 0 ≤ w ∧ w ≤ 256) (hb : 0 ≤ bits ∧ bits ≤ 64) : az Tryz.prog 117 [.int .i64 w, .int .i64 bits] [] (aG fun v G => v = .int .i64 (aa.de w bits) ∧ G = []) := by
 refine au [(0, _), (1, _)] Tryz.func117 rfl Tryz.ntmps117 rfl rfl ?_
 intro w0 F
 have hr := aa.nh hw hb
 have he : (w * bits + 7) / 8 = (aa.de w bits) := by unfold aa.de; rfl
 refine (QV) ?_
 refine aj (xW w true (decide_eq_true hw).symm) V.GS  rfl .nil rfl ?_
 rintro _ _ ⟨rfl, rfl⟩
 refine (Qi) ?_
 refine (Q0) ?_
 refine (QE) ?_
 refine (Qi) ?_
 refine (Q0) ?_
 refine (Qr) ?_
 refine (x8) ?_
 refine (o8) ?_
 refine (Q8) ?_
 exact af (av rfl) ⟨congrArg (Value.int .i64) he, rfl⟩ (sub .nil ak)
set_option maxHeartbeats 1000000 in
theorem Lm (p : Option Addr) (c : Nat) (l : List aa.Ps) (bits : Int) (R : ad) (hR : ∀ w0 h, R w0 h → aF PK p l.length l w0 h) (hl : l.length ≤ 7) (hok : ∀ x ∈ l, aa.iF x) (hb : 0 ≤ bits ∧ bits ≤ 64) : az Tryz.prog 83 [.slice p l.length c, .int .i64 bits] [R] (aG fun v G => v = .int .i64 (aa.dH l bits) ∧ G = [R]) := by
 refine au [(0, _), (1, _)] Tryz.func83 rfl Tryz.ntmps83 rfl rfl ?_
 intro w0 F
 refine rT TT 10 rfl ?_
 refine (Qr) ?_
 refine (Q6) ?_
 refine (Q0) ?_
 refine (QE) ?_
 refine (Qi) ?_
 refine (Q0) ?_
 refine (Qr) ?_
 refine rO TT 20 rfl ?_
 rw [show ((5 : Nat), Value.int .i64 0) = (5, .int .i64 (aa.dH (l.take 0) bits)) from by rw [List.take_zero]; unfold aa.dH; rfl]
 refine cB (fun (i : Nat) => [(1, .int .i64 bits), (5, .int .i64 (aa.dH (l.take i) bits)), (19, .slice p l.length c), (20, .int .i64 (l.length : Int)), (21, .int .i64 (i : Int))]) (fun (i : Nat) => R :: F) (fun (i : Nat) => i ≤ l.length) (fun (i : Nat) => l.length - i) (i1 (0) ?_ (bB ln) (sub (aq .nil) ak)) ?_
 ·exact Nat.zero_le _
 intro i
 rintro hi
 obtain ⟨x, hx⟩ : ∃ x, x = (PK.g l (i : Int)) := ⟨_, rfl⟩
 refine (Qm) ?_
 refine aC rfl (fun h22 => ?_) (fun h22 => ?_)
 ·refine (Qe) ?_
  have hpo : aa.iF x := hx ▸ aa.K3 hok (i := i) (by omega)
  have hpb := aa.DU hpo hb
  have hbi := aa.vH (l := l.take i) hb (fun q hq => hok q (List.mem_of_mem_take hq))
  have hli : (l.take i).length ≤ i := by rw [List.length_take]; omega
  obtain ⟨_, _, _, _, _, _, hw0, hw1, hh0, hh1⟩ := hpo
  have hrn := aa.nh (w := x.w) ⟨hw0, hw1⟩ hb
  refine (Qo) ?_
  refine oV (xI V.uf (by exact bM hR aB))<|oV (cY (v := .agg #[.int .i64 x.x, .int .i64 x.y, .int .i64 x.dx, .int .i64 x.dy, .int .i64 x.w, .int .i64 x.h]) (kT (c := PK) V.a145 rfl (by exact bM hR aB) (by omega) (by omega) rfl) (by rw [hx]))<|cS V.z145 rfl ?_
  intro b7
  refine (Sp)<|(Q1)<|(Qf) ?_
  refine aj (xW x.w true (decide_eq_true ⟨hw0, hw1⟩).symm) V.GS  rfl .nil rfl ?_
  rintro _ _ ⟨rfl, rfl⟩
  refine (Qj)<|(QP) ?_
  refine aj (xW x.h true (decide_eq_true ⟨hh0, hh1⟩).symm) V.GS  rfl .nil rfl ?_
  rintro _ _ ⟨rfl, rfl⟩
  refine (Qd) ?_
  rcases (Classical.em (0 < x.w)) with hq | hq
  ·refine (Q5) ?_
   refine (Qf) ?_
   refine (Qu) ?_
   refine (Qi) ?_
   refine wN [pz 0 [] [5], pz 0 [] [7], pz 2 [1] [], pz 0 [] [7], pz 8 [3] [], pz 0 [] [1], pz 56 [4, 5] [], pz 120 [6] [], pz 254 [2, 7] [], pz 511 [0, 8] [], pz 1023 [9] []] [⟨fun y => ai b7 145 [.int .i64 x.x, .int .i64 x.y, .int .i64 x.dx, .int .i64 x.dy, .int .i64 x.w, .int .i64 x.h], none, none, [2, 4]⟩, ⟨fun y => R, none, none, []⟩] F V.mixed ?_
   refine nM ?_
   refine nG V.RP ?_
   refine (Qv) ?_
   refine nG V.Sh ?_
   refine (Qv) ?_
   refine nM ?_
   refine nE (fun y FF hA => aV (Post := []) (Js x.w bits ⟨hw0, hw1⟩ hb) V.Mu rfl .nil (fun v G h => by rcases h with ⟨rfl, rfl⟩; exact ⟨rfl, .refl _⟩)) ?_
   refine (Qy) ?_
   refine nV (fun y hA L => gB (r := (x.h * (1 + aa.de x.w bits))) rfl rfl wI) ?_
   refine (Qy) ?_
   refine nA ?_
   refine (Qb) ?_
   intro y hA
   clear hA
   show kr _ _ _ _ (ai b7 145 [.int .i64 x.x, .int .i64 x.y, .int .i64 x.dx, .int .i64 x.dy, .int .i64 x.w, .int .i64 x.h] :: R :: F)
   refine jh<|bj<|(Qo)<|(Ap)<|(Q7) ?_
   refine dh ?_
   have ht := aa.rv (l := l) (bits := bits) (i := i) (by omega)
   rw [show l.getD i ⟨0, 0, 0, 0, 0, 0⟩ = x from hx.symm] at ht
   (rw [aa.Ul (by assumption)] at ht; rw [← ht]; exact j1 (i + 1) ⟨by omega, by omega⟩ (bB ln) (sub (.cons aw .nil) bp))
  ·refine (tZ)<|(Qr)<|(AM) ?_
   have ht := aa.rv (l := l) (bits := bits) (i := i) (by omega)
   rw [show l.getD i ⟨0, 0, 0, 0, 0, 0⟩ = x from hx.symm] at ht
   (rw [aa.Te (by assumption), Int.add_zero] at ht; rw [← ht]; exact j1 (i + 1) ⟨by omega, by omega⟩ (bB ln) (sub (.cons aw .nil) bp))
 ·refine (Qc) ?_
  obtain rfl : i = l.length := by omega
  rw [List.take_length]
  refine rC TT 6 rfl ?_
  exact af (av rfl) ⟨rfl, rfl⟩ (sub (aq .nil) ak)
set_option maxHeartbeats 2000000 in
theorem Hb (w h : Int) (hs : aa.aT w h = 0) : az Tryz.prog 29 [.int .i64 w, .int .i64 h] [] (aG fun v G => ∃ p c, v = .slice p (aa.aE w h).length c ∧ G = [Row jH p (aa.aE w h).length c (aa.aE w h)]) := by
 refine au [(0, _), (1, _)] Tryz.func29 rfl Tryz.ntmps29 rfl rfl ?_
 intro w0 F
 have hsd := aa.il hs
 have hw : 0 ≤ w ∧ w ≤ 256 := by omega
 have hh : 0 ≤ h ∧ h ≤ 256 := by omega
 refine rT TT 10 rfl ?_
 refine aj (pM w h) V.EV  rfl .nil rfl ?_
 rintro _ _ ⟨rfl, rfl⟩
 rw [hs]
 refine (vX)<|(Qd) ?_
 refine oV (cn V.r8 V.oW rfl (cs := [.int .i64 0, .int .i64 0, .int .i64 8, .int .i64 8, .int .i64 0, .int .i64 0]) (by kernel_rfl))<|oV (cn V.r8 V.oW rfl (cs := [.int .i64 4, .int .i64 0, .int .i64 8, .int .i64 8, .int .i64 0, .int .i64 0]) (by kernel_rfl))<|oV (cn V.r8 V.oW rfl (cs := [.int .i64 0, .int .i64 4, .int .i64 4, .int .i64 8, .int .i64 0, .int .i64 0]) (by kernel_rfl))<|oV (cn V.r8 V.oW rfl (cs := [.int .i64 2, .int .i64 0, .int .i64 4, .int .i64 4, .int .i64 0, .int .i64 0]) (by kernel_rfl))<|oV (cn V.r8 V.oW rfl (cs := [.int .i64 0, .int .i64 2, .int .i64 2, .int .i64 4, .int .i64 0, .int .i64 0]) (by kernel_rfl))<|oV (cn V.r8 V.oW rfl (cs := [.int .i64 1, .int .i64 0, .int .i64 2, .int .i64 2, .int .i64 0, .int .i64 0]) (by kernel_rfl))<|oV (cn V.r8 V.oW rfl (cs := [.int .i64 0, .int .i64 1, .int .i64 1, .int .i64 2, .int .i64 0, .int .i64 0]) (by kernel_rfl))<|cH (jH) aa.ua V.y8 V.oW rfl rfl rfl (by unfold aa.ua; kernel_rfl) (by unfold aa.ua; rfl) rfl ?_
 intro sV
 refine (QI) ?_
 rw [show ((6 : Nat), Value.slice none 0 0) = (6, .slice none (aa.ek w h 0).length 0) from by rw [aa.sY]; rfl]
 refine iT (Row jH none (aa.ek w h 0).length 0 (aa.ek w h 0)) (by rw [aa.sY]; exact Row.nil _ _ _) ?_
 refine fN (fun (i : Nat) (p6 : Option Addr) (c6 : Nat) => [(0, .int .i64 w), (1, .int .i64 h), (5, .slice (some ⟨sV, 0, none⟩) 7 7), (6, .slice p6 (aa.ek w h i).length c6), (7, .int .i64 (i : Int))]) (fun (i : Nat) (p6 : Option Addr) (c6 : Nat) => Row jH p6 (aa.ek w h i).length c6 (aa.ek w h i) :: Row jH (some ⟨sV, 0, none⟩) 7 7 aa.ua :: F) (fun (i : Nat) (p6 : Option Addr) (c6 : Nat) => i ≤ 7) (fun (i : Nat) (p6 : Option Addr) (c6 : Nat) => 7 - i) (i3 (0) (none) (0) ?_ (bB ln) (sub (aO .nil) ak)) ?_
 ·exact Nat.zero_le _
 intro i p6 c6
 rintro hi
 have hpl := aa.za w h i
 refine rL TT 7 rfl ?_
 refine aC rfl (fun h24 => ?_) (fun h24 => ?_)
 ·refine (Qe) ?_
  obtain ⟨x, hx⟩ : ∃ x, x = (jH.g aa.ua (i : Int)) := ⟨_, rfl⟩
  obtain ⟨hal, hxx, hxy, hdx, hdy, hxw, hxh⟩ := aa.Kc w h (i := i) (by omega) (s := x) hx
  have hmw := aa.qG (frm := x.x) (e := w) hxx.1 hw.1 hdx
  have hmh := aa.qG (frm := x.y) (e := h) hxy.1 hh.1 hdy
  refine (Q5) ?_
  refine oV (xI V.y8 (own dm))<|oV (cY (v := .agg #[.int .i64 x.x, .int .i64 x.y, .int .i64 x.dx, .int .i64 x.dy, .int .i64 0, .int .i64 0]) (kT (c := jH) V.IV rfl (own dm) (by omega) (by omega) rfl) (by rw [← hx]; show Value.agg #[.int .i64 x.x, .int .i64 x.y, .int .i64 x.dx, .int .i64 x.dy, .int .i64 x.w, .int .i64 x.h] = _; rw [hxw, hxh]))<|cS V.oW rfl ?_
  intro b8
  refine (VB)<|(Q1)<|(Qf)<|(Q8) ?_
  rw [show ((9 : Nat), Value.int .i64 x.x) = (9, .int .i64 (x.x + ((0 : Nat) : Int) * x.dx)) from by rw [← aa.Pt]]
  refine cB (fun (k : Nat) => [(0, .int .i64 w), (1, .int .i64 h), (5, .slice (some ⟨sV, 0, none⟩) 7 7), (6, .slice p6 (aa.ek w h i).length c6), (7, .int .i64 (i : Int)), (8, .pointer (some ⟨b8, 0, none⟩)), (9, .int .i64 (x.x + (k : Int) * x.dx))]) (fun (k : Nat) => ai b8 67 [.int .i64 x.x, .int .i64 x.y, .int .i64 x.dx, .int .i64 x.dy, .int .i64 (k : Int), .int .i64 0] :: Row jH p6 (aa.ek w h i).length c6 (aa.ek w h i) :: Row jH (some ⟨sV, 0, none⟩) 7 7 aa.ua :: F) (fun (k : Nat) => (k : Int) ≤ (aa.many x.x x.dx w)) (fun (k : Nat) => (aa.many x.x x.dx w).toNat - k) (i1 (0) ?_ (gI (bB ln)) (sub (fp .nil) ak)) ?_
  ·exact aa.km hdx
  intro k
  rintro hk
  refine rL TT 2 rfl ?_
  have hkd := aa.Ia (k := k) hdx (by omega)
  refine (Qc) ?_
  refine aC rfl (fun h35 => ?_) (fun h35 => ?_)
  ·refine (Qc)<|(Qf)<|(ny)<|(nc)<|(Q1)<|(Qf)<|(CL) ?_
   have hk1 := (aa.kO hdx (by omega)).1 (by assumption : x.x + (k : Int) * x.dx < w)
   rw [aa.Mq]
   exact j1 (k + 1) ⟨by omega, by omega⟩ (gI (bB ln)) (sub (fp .nil) ak)
  ·refine (Qs) ?_
   have hkw := aa.ot hdx hk (by assumption)
   rw [hkw]
   refine (Q9)<|(Qf)<|(Q8) ?_
   rw [show ((10 : Nat), Value.int .i64 x.y) = (10, .int .i64 (x.y + ((0 : Nat) : Int) * x.dy)) from by rw [← aa.Pt]]
   refine cB (fun (k : Nat) => [(0, .int .i64 w), (1, .int .i64 h), (5, .slice (some ⟨sV, 0, none⟩) 7 7), (6, .slice p6 (aa.ek w h i).length c6), (7, .int .i64 (i : Int)), (8, .pointer (some ⟨b8, 0, none⟩)), (10, .int .i64 (x.y + (k : Int) * x.dy))]) (fun (k : Nat) => ai b8 67 [.int .i64 x.x, .int .i64 x.y, .int .i64 x.dx, .int .i64 x.dy, .int .i64 (aa.many x.x x.dx w), .int .i64 (k : Int)] :: Row jH p6 (aa.ek w h i).length c6 (aa.ek w h i) :: Row jH (some ⟨sV, 0, none⟩) 7 7 aa.ua :: F) (fun (k : Nat) => (k : Int) ≤ (aa.many x.y x.dy h)) (fun (k : Nat) => (aa.many x.y x.dy h).toNat - k) (i1 (0) ?_ (gI (bB ln)) (sub (fp .nil) ak)) ?_
   ·exact aa.km hdy
   intro k
   rintro hk
   refine rL TT 2 rfl ?_
   have hkd := aa.Ia (k := k) hdy (by omega)
   refine (Qc) ?_
   refine aC rfl (fun h48 => ?_) (fun h48 => ?_)
   ·refine (Qc)<|(Qf)<|(ny)<|(nc)<|(Q1)<|(Qf)<|(CL) ?_
    have hk1 := (aa.kO hdy (by omega)).1 (by assumption : x.y + (k : Int) * x.dy < h)
    rw [aa.Mq]
    exact j1 (k + 1) ⟨by omega, by omega⟩ (gI (bB ln)) (sub (fp .nil) ak)
   ·refine (Qe) ?_
    rcases (aa.DX (aa.mi x.x x.y x.dx x.dy w h)) with ⟨q1, q2⟩ | ⟨q1, q3, q2⟩ | ⟨q1, q3, q2⟩
    ·refine (Qa) ?_
     have hkh := aa.ot hdy hk (by assumption)
     rw [hkh]
     refine (Q9)<|(Qf) ?_
     refine oV (bV (dz rfl rfl) q1)<|gV TT 16 rfl (by omega) ?_
     (rw [aa.tP (i := i) (by omega) hal q2]; exact j3 (i + 1) _ _ ⟨by omega, by omega⟩ (bB ln) (sub (.cons aw (.cons aw .nil)) bp))
    ·refine (Qa) ?_
     have hkh := aa.ot hdy hk (by assumption)
     rw [hkh]
     refine (Q9)<|(Qf) ?_
     refine oV (cQ (dz rfl rfl) q1)<|(Ql)<|(QP) ?_
     refine oV (bV (dz rfl rfl) q3)<|(x8) ?_
     (rw [aa.tP (i := i) (by omega) hal q2]; exact j3 (i + 1) _ _ ⟨by omega, by omega⟩ (bB ln) (sub (.cons aw (.cons aw .nil)) bp))
    ·refine (Qa) ?_
     have hkh := aa.ot hdy hk (by assumption)
     rw [hkh]
     refine (Q9)<|(Qf) ?_
     refine oV (cQ (dz rfl rfl) q1)<|(Ql)<|(QP) ?_
     refine oV (cQ (dz rfl rfl) q3)<|(Q1) ?_
     refine oV (dv V.IV rfl aB (vs := [_, _, _, _, _, _]) rfl rfl)<|cH (jH) [(aa.mi x.x x.y x.dx x.dy w h)] V.y8 V.oW rfl rfl rfl (by kernel_rfl) rfl rfl ?_
     intro Fj
     refine eh (c := (jH)) V.y8 V.oW rfl rfl rfl rfl bg (own aB) (by omega) rfl ?_
     intro p68 c68
     refine (rA) ?_
     (have hl2 : (aa.ek w h i).length + 1 = (aa.ek w h (i + 1)).length := (congrArg List.length (aa.tA (i := i) (p := (aa.mi x.x x.y x.dx x.dy w h)) (by omega) hal q2)).symm ▸ (by simp)
      rw [aa.tA (i := i) (p := (aa.mi x.x x.y x.dx x.dy w h)) (by omega) hal q2, hl2]
      exact j3 (i + 1) _ _ ⟨by omega, by omega⟩ (bB ln) (sub (aq (.cons bg .nil)) fP))
 ·refine (Qc) ?_
  obtain rfl : i = 7 := by omega
  rw [aa.FC]
  refine (Qc) ?_
  exact af (av rfl) ⟨_, _, rfl, rfl⟩ (sub (aq .nil) bp)
set_option maxHeartbeats 1000000 in
theorem Ll (p : Option Addr) (c : Nat) (l : List Int) (R : ad) (hR : ∀ w0 h, R w0 h → aF (aD 3 .i64) p l.length l w0 h) (hl : l.length < 500000000) (x : Int) : az Tryz.prog 129 [.slice p l.length c, .int .i64 x] [R] (aG fun v G => ∃ r : Int, v = .int .i64 r ∧ (0 ≤ r ↔ x ∈ l) ∧ G = [R]) := by
 refine au [(0, _), (1, _)] Tryz.func129 rfl Tryz.ntmps129 rfl rfl ?_
 intro w0 F
 refine rT TT 14 rfl ?_
 refine cB (fun (i : Nat) => [(0, .slice p l.length c), (1, .int .i64 x), (7, .int .i64 (l.length : Int)), (8, .int .i64 (i : Int))]) (fun (i : Nat) => R :: F) (fun (i : Nat) => i ≤ l.length ∧ ∀ j, j < i → x ≠ l.getD j 0) (fun (i : Nat) => l.length - i) (i1 (0) ?_ (eG ln) (sub (aq .nil) ak)) ?_
 ·exact ⟨Nat.zero_le _, fun j hj => by omega⟩
 intro i
 rintro ⟨hi, hall⟩
 refine (Qm) ?_
 refine aC rfl (fun h9 => ?_) (fun h9 => ?_)
 ·refine (QA) ?_
  rcases (Classical.em (x = ((aD 3 .i64).g l (i : Int)))) with hnx | hnx
  ·refine (Qe)<|(WI) ?_
   refine oV (cQ (dE rfl rfl) hnx)<|(QI) ?_
   exact af (av rfl) ⟨_, rfl, ⟨fun _ => aa.NN (i := i) (by omega) hnx, fun _ => by omega⟩, rfl⟩ (sub (aq .nil) ak)
  ·refine (Qe)<|(WI) ?_
   refine oV (bV (dE rfl rfl) hnx)<|(AM) ?_
   refine j1 (i + 1) ?_ (eG ln) (sub (aq .nil) ak)
   exact ⟨⟨by omega, fun j hj => (Nat.lt_succ_iff_lt_or_eq.1 hj).elim (hall j) (fun e => e ▸ hnx)⟩, by omega⟩
 ·refine (o5) ?_
  obtain rfl : i = l.length := by omega
  exact af (av rfl) ⟨_, rfl, ⟨fun hh => absurd hh (by decide), fun hh => absurd hh (aa.JZ hall)⟩, rfl⟩ (sub (aq .nil) ak)
set_option maxHeartbeats 1000000 in
theorem tq (p : Option Addr) (c : Nat) (l : List Int) (R : ad) (hR : ∀ w0 h, R w0 h → aF (aD 3 .i64) p l.length l w0 h) (hl : l.length < 500000000) (x : Int) (t : Bool) (ht : t = decide (x ∈ l)) : az Tryz.prog 94 [.slice p l.length c, .int .i64 x] [R] (aG fun v G => v = .bool t ∧ G = [R]) := by
 refine au [(0, _), (1, _)] Tryz.func94 rfl Tryz.ntmps94 rfl rfl ?_
 intro w0 F
 refine (QV) ?_
 refine aj (Ll p c l R hR hl x) V.Xa  rfl (aq .nil) rfl ?_
 rintro _ _ ⟨r7, rfl, hr7, rfl⟩
 refine (Q3) ?_
 rw [aa.K2 ht hr7]
 exact af (av rfl) ⟨rfl, rfl⟩ (sub (aq .nil) ak)
set_option maxHeartbeats 1000000 in
theorem iC (x : Int) : az Tryz.prog 19 [.int .i64 x] [] (aG fun v G => v = .int .i64 (aa.parts x) ∧ G = []) := by
 refine au [(0, _)] Tryz.func19 rfl Tryz.ntmps19 rfl rfl ?_
 intro w0 F
 refine (QO) ?_
 rcases (aa.sG x) with ⟨a0, hs⟩ | ⟨a0, a1, hs⟩ | ⟨a0, a1, a2, hs⟩ | ⟨a0, a1, a2, a3, hs⟩ | ⟨a0, a1, a2, a3, a4, hs⟩ | ⟨a0, a1, a2, a3, a4, hs⟩
 ·refine (QA)<|(Qz)<|(QI) ?_
  exact af (av rfl) ⟨congrArg (Value.int .i64) hs.symm, rfl⟩ (sub .nil ak)
 ·refine (QA)<|(QB)<|(Q3)<|(Qz)<|(QG) ?_
  exact af (av rfl) ⟨congrArg (Value.int .i64) hs.symm, rfl⟩ (sub .nil ak)
 ·refine (QA) ?_
  refine (QB) ?_
  refine (Q3) ?_
  refine (QB) ?_
  refine (Q1) ?_
  refine (Qz) ?_
  refine (QG) ?_
  exact af (av rfl) ⟨congrArg (Value.int .i64) hs.symm, rfl⟩ (sub .nil ak)
 ·refine (QA) ?_
  refine (QB) ?_
  refine (Q3) ?_
  refine (QB) ?_
  refine (Q1) ?_
  refine (QB) ?_
  refine (Q1) ?_
  refine (Qz) ?_
  refine (QG) ?_
  exact af (av rfl) ⟨congrArg (Value.int .i64) hs.symm, rfl⟩ (sub .nil ak)
 ·refine (QA) ?_
  refine (QB) ?_
  refine (Q3) ?_
  refine (QB) ?_
  refine (Q1) ?_
  refine (QB) ?_
  refine (Q1) ?_
  refine (QB) ?_
  refine (Q1) ?_
  refine (Qz) ?_
  refine (QG) ?_
  exact af (av rfl) ⟨congrArg (Value.int .i64) hs.symm, rfl⟩ (sub .nil ak)
 ·refine (QA) ?_
  refine (QB) ?_
  refine (Q3) ?_
  refine (QB) ?_
  refine (Q1) ?_
  refine (QB) ?_
  refine (Q1) ?_
  refine (QB) ?_
  refine (Q1) ?_
  refine (QB) ?_
  refine (Qq) ?_
  exact af (av rfl) ⟨congrArg (Value.int .i64) hs.symm, rfl⟩ (sub .nil ak)
set_option maxHeartbeats 1000000 in
theorem DA (x d : Int) (t : Bool) (ht : t = decide (aa.deep x d)) : az Tryz.prog 57 [.int .i64 x, .int .i64 d] [] (aG fun v G => v = .bool t ∧ G = []) := by
 refine au [(0, _), (1, _)] Tryz.func57 rfl Tryz.ntmps57 rfl rfl ?_
 intro w0 F
 refine (QO) ?_
 rcases (aa.TF x d) with ⟨a0, hs⟩ | ⟨a0, a1, hs⟩ | ⟨a0, a1, a2, hs⟩ | ⟨a0, a1, a2, a3, hs⟩ | ⟨a0, a1, a2, a3, hs⟩
 ·refine (kC)<|(Qz)<|(Q1) ?_
  refine cH (I3) [1, 2, 4, 8, 16] V.cV V.z3 rfl rfl rfl rfl rfl rfl ?_
  intro b8
  refine (Q7) ?_
  refine aj (tq (some ⟨b8, 0, none⟩) 5 [1, 2, 4, 8, 16] (Row (aD 3 .i64) (some ⟨b8, 0, none⟩) 5 5 [1, 2, 4, 8, 16]) (fun _ _ hh => hh.rd) (by decide) d t (ht.trans hs)) V.Vb  rfl (aq .nil) rfl ?_
  rintro _ _ ⟨rfl, rfl⟩
  refine (Q1) ?_
  (rw [ht.trans hs]; exact af (G := []) (av rfl) ⟨rfl, rfl⟩ (sub .nil bp))
 ·refine (kC) ?_
  refine (QB) ?_
  refine (Q1) ?_
  refine (Qz) ?_
  refine (Q1) ?_
  refine cH (I3) [1, 2, 4, 8] V.cV V.z3 rfl rfl rfl rfl rfl rfl ?_
  intro oZ
  refine (Q7) ?_
  refine aj (tq (some ⟨oZ, 0, none⟩) 4 [1, 2, 4, 8] (Row (aD 3 .i64) (some ⟨oZ, 0, none⟩) 4 4 [1, 2, 4, 8]) (fun _ _ hh => hh.rd) (by decide) d t (ht.trans hs)) V.Vb  rfl (aq .nil) rfl ?_
  rintro _ _ ⟨rfl, rfl⟩
  refine (Q1) ?_
  (rw [ht.trans hs]; exact af (G := []) (av rfl) ⟨rfl, rfl⟩ (sub .nil bp))
 ·refine (kC) ?_
  refine (QB) ?_
  refine (Q1) ?_
  refine (QB) ?_
  refine (Qg) ?_
  refine (Rc) ?_
  rintro _ _ ⟨rfl, rfl⟩
  refine (Qr)<|(QG) ?_
  (rw [← ht.trans hs]; exact af (G := []) (av rfl) ⟨rfl, rfl⟩ (sub .nil ak))
 ·refine (kC) ?_
  refine (QB) ?_
  refine (Q1) ?_
  refine (QB) ?_
  refine (Qg) ?_
  refine (Rc) ?_
  rintro _ _ ⟨rfl, rfl⟩
  refine (Qu)<|(Ql)<|(Qz)<|(Qn) ?_
  (rw [← ht.trans hs]; exact af (G := []) (av rfl) ⟨rfl, rfl⟩ (sub .nil ak))
 ·refine (kC) ?_
  refine (QB) ?_
  refine (Q1) ?_
  refine (QB) ?_
  refine (Qg) ?_
  refine (Rc) ?_
  rintro _ _ ⟨rfl, rfl⟩
  refine (Qu)<|(Ql)<|(QB)<|(Qn) ?_
  (rw [← ht.trans hs]; exact af (G := []) (av rfl) ⟨rfl, rfl⟩ (sub .nil ak))
end Go.Proofs.YtmaiakpjgomnpaaGreat
namespace Go.Proofs.YtmaiakpjgomnpaaGreat
open Go.Sl
theorem V.GJ : ay Tryz.prog 130 = true := by kernel_rfl
theorem V.OQ : ay Tryz.prog 140 = true := by kernel_rfl
theorem V.Xn : ay Tryz.prog 141 = true := by kernel_rfl
theorem V.Hu : ay Tryz.prog 163 = true := by kernel_rfl
theorem V.Hf : ay Tryz.prog 164 = true := by kernel_rfl
theorem V.Xz : ay Tryz.prog 165 = true := by kernel_rfl
theorem V.Zk : ay Tryz.prog 61 = true := by kernel_rfl
theorem V.WM : ay Tryz.prog 95 = true := by kernel_rfl
end Go.Proofs.YtmaiakpjgomnpaaGreat
namespace Go.Proofs.YtmaiakpjgomnpaaGreat
open Go.Sl
theorem V.mV : iX Tryz.prog 68 = some (4, 62, 1) := by kernel_rfl
theorem V.Xd : ay Tryz.prog 161 = true := by kernel_rfl
theorem V.RK : ay Tryz.prog 172 = true := by kernel_rfl
theorem V.Xc : ay Tryz.prog 185 = true := by kernel_rfl
theorem V.nf : ay Tryz.prog 21 = true := by kernel_rfl
theorem V.Fj : ay Tryz.prog 67 = true := by kernel_rfl
theorem V.YY : ay Tryz.prog 93 = true := by kernel_rfl
theorem V.YH : aW Tryz.prog 158 0 = some 0 := by kernel_rfl
theorem V.Ui : eC Tryz.prog 158 = some [(0, 4)] := by kernel_rfl
theorem V.Xm : cu Tryz.prog 158 = some ([.slice none 0 0, .slice none 0 0, .int .i64 0, .int .i64 0]) := by kernel_rfl
end Go.Proofs.YtmaiakpjgomnpaaGreat
namespace Go.Proofs.YtmaiakpjgomnpaaGreat
open Go.Sl 
attribute [local irreducible] ag.an aa.aT aa.up aa.bK aa.gh
def HW (b : Nat) (B : List Int) (at_ : Nat) (out : List Int) (free : Int) : ad := fun w0 h => ∃ i : Lv, True ∧ bW w0 [ai b 158 [.slice i.p1 B.length i.c1, .slice i.p2 out.length i.c2, .int .i64 (at_ : Int), .int .i64 free], Row U5 i.p1 B.length i.c1 B, Row U5 i.p2 out.length i.c2 out] h
theorem rK {b at_ : Nat} {p1 p2 : Option Addr} {c1 c2 : Nat} {B out : List Int} {free : Int} {w0 : World} {h : Hp}
  (hh : bW w0 [ai b 158 [.slice p1 B.length c1, .slice p2 out.length c2, .int .i64 (at_ : Int), .int .i64 free], Row U5 p1 B.length c1 B, Row U5 p2 out.length c2 out] h) : HW b B at_ out free w0 h := ⟨⟨p1, c1, p2, c2⟩, trivial, hh⟩
theorem KT (b : Nat) (B : List Int) (at_ : Nat) (out : List Int) (free : Int) (hl : B.length < 500000000) (ha : at_ ≤ 8 * B.length) : az Tryz.prog 128 [.pointer (some ⟨b, 0, none⟩)] [HW b B at_ out free] (aG fun v G => v = .int .i64 (8 * (B.length : Int) - (at_ : Int)) ∧ G = [HW b B at_ out free]) := by
 refine au [(0, _)] Tryz.func128 rfl Tryz.ntmps128 rfl rfl ?_
 intro w0 F
 refine (ql) ?_
 rintro ⟨p1, c1, p2, c2⟩ _
 dsimp only
 refine (me) ?_
 refine (tl) ?_
 refine rR TT 3 rfl ?_
 refine (Iv) ?_
 refine RE TT 5 rfl (by omega) ?_
 refine oR (aA V.s3 rfl aB rfl) ?_
 refine RE TT 2 rfl (by omega) ?_
 refine Rg.dh ?_
 refine rN TT 2 rfl ?_
 exact af (av rfl) ⟨rfl, rfl⟩ (aM (fp .nil) ak (fun w0 h hh => rK hh))
theorem Rs (b : Nat) (B : List Int) (at_ : Nat) (out : List Int) (free : Int) (n : Int) (hl : B.length < 500000000) (ha : at_ ≤ 8 * B.length) (hn : 0 ≤ n ∧ n ≤ 24 ∧ n ≤ 8 * (B.length : Int) - at_) : az Tryz.prog 92 [.pointer (some ⟨b, 0, none⟩), .int .i64 n] [HW b B at_ out free] (aG fun v G => v = .tuple #[] ∧ G = [HW b B at_ out free]) := by
 refine (Nf) ?_
 intro w0 F
 refine rT TT 3 rfl ?_
 refine (QE) ?_
 refine (Q6) ?_
 refine (Q0) ?_
 refine (Qr) ?_
 refine (Q8) ?_
 refine (Q0) ?_
 refine aj (KT b B at_ out free hl ha) V.Ms  rfl (aq .nil) rfl ?_
 rintro _ _ ⟨rfl, rfl⟩
 refine (Q0)<|(Qr)<|(Q3) ?_
 exact gY eK ⟨rfl, rfl⟩ (sub (aq .nil) ak)
theorem Lu (b : Nat) (B : List Int) (at_ : Nat) (out : List Int) (free : Int) (hl : B.length < 500000000) (hB : ag.an B) (ha : at_ < 8 * B.length) : az Tryz.prog 93 [.pointer (some ⟨b, 0, none⟩)] [HW b B at_ out free] (aG fun v G => v = .int .i64 (aa.gh B at_) ∧ G = [HW b B (at_ + 1) out free]) := by
 refine au [(0, _)] Tryz.func93 rfl Tryz.ntmps93 rfl rfl ?_
 intro w0 F
 refine (ql) ?_
 rintro ⟨p1, c1, p2, c2⟩ _
 dsimp only
 have hq : U5.g B ((at_ : Int) / 8) = B.getD (at_ / 8) 0 := gE (at_ / 8) (by omega)
 have hb := hB.get (at_ / 8)
 have hd := ag.wS hb.1 hb.2 (7 - at_ % 8)
 have hb2 := aa.qR B at_
 have hbd : B.getD (at_ / 8) 0 / 2 ^ (7 - at_ % 8) % 2 = aa.gh B at_ := by unfold aa.gh; rfl
 refine (me)<|(tl) ?_
 refine rR TT 4 rfl<|(Iv) ?_
 refine rR TT 4 rfl<|oR (aA V.s3 rfl aB rfl)<|oR (jY rfl rfl (by omega) (rZ (by omega) (by omega) (by omega)))<|oR (xI V.bN (own dm))<|oR (xL V.s5 (own dm))<|rR TT 4 rfl<|oR (aA V.s3 rfl aB rfl)<|oR (lJ rfl rfl (by omega) (oe (by omega)))<|RE TT 1 rfl (by omega)<|oR (dX (r := B.getD (at_ / 8) 0 / 2 ^ (7 - at_ % 8)) rfl rfl (by omega) (by rw [hq]; exact ag.OJ hb.1 (by omega) (by omega)))<|oR (iO rfl)<|Rg.dh<|rN TT 7 rfl<|(Qf)<|(tt)<|(nc)<|(Q3) ?_
 refine oV (kt (r := aa.gh B at_) rfl rfl ((ag.yi hd.1 hd.2).trans hbd))<|(QU)<|(Q8) ?_
 rw [show (at_ : Int) + 1 = ((at_ + 1 : Nat) : Int) from by omega]
 exact af (av rfl) ⟨rfl, rfl⟩ (aM (fp .nil) ak (fun w0 h hh => rK hh))
theorem jC (b : Nat) (B : List Int) (at_ : Nat) (out : List Int) (free : Int) (n : Nat) (hl : B.length < 500000000) (hB : ag.an B) (hn : n ≤ 24) (ha : at_ + n ≤ 8 * B.length) : az Tryz.prog 56 [.pointer (some ⟨b, 0, none⟩), .int .i64 (n : Int)] [HW b B at_ out free] (aG fun v G => v = .int .i64 (aa.bK B at_ n) ∧ G = [HW b B (at_ + n) out free]) := by
 refine au [(0, _), (1, _)] Tryz.func56 rfl Tryz.ntmps56 rfl rfl ?_
 intro w0 F
 refine rT TT 11 rfl<|aj (Rs b B at_ out free n hl (by omega) (by omega)) V.NB  rfl (aq .nil) rfl ?_
 rintro _ _ ⟨rfl, rfl⟩
 refine (QI) ?_
 rw [show ((5 : Nat), Value.int .i64 0) = (5, .int .i64 (aa.bK B at_ 0)) from by unfold aa.bK; rfl]
 refine cB (fun (k : Nat) => [(0, .pointer (some ⟨b, 0, none⟩)), (5, .int .i64 (aa.bK B at_ k)), (11, .int .i64 (n : Int)), (12, .int .i64 (k : Int))]) (fun (k : Nat) => HW b B (at_ + k) out free :: F) (fun (k : Nat) => k ≤ n) (fun (k : Nat) => n - k) (i1 (0) ?_ (eG ln) (sub (aq .nil) ak)) ?_
 ·exact Nat.zero_le _
 intro k
 rintro hk
 refine (Qm) ?_
 refine aC rfl (fun h13 => ?_) (fun h13 => ?_)
 ·refine (Q4) ?_
  have hb := aa.qR B (at_ + k)
  have hnb := aa.uD B at_ (n := k) (by omega)
  refine (Q9) ?_
  refine oV (iQ (r := 2 * (aa.bK B at_ k)) rfl rfl (by decide) (aa.Tw (by omega)))<|(Q7) ?_
  refine aj (Lu b B (at_ + k) out free hl hB (by omega)) V.YY  rfl (aq .nil) rfl ?_
  rintro _ _ ⟨rfl, rfl⟩
  refine oV (qb (r := (aa.bK B at_ (k + 1))) rfl rfl (aa.Yo (by omega)))<|(QQ) ?_
  refine j1 (k + 1) ?_ (eG ln) (sub (aq .nil) ak)
  exact ⟨by omega, by omega⟩
 ·refine rC TT 12 rfl ?_
  obtain rfl : k = n := by omega
  exact af (av rfl) ⟨rfl, rfl⟩ (sub (aq .nil) ak)
theorem ya (p : Option Addr) (cap : Nat) (B : List Int) (R : ad) (hR : ∀ w0 h, R w0 h → aF U5 p B.length B w0 h) (hl : B.length < 500000000) : az Tryz.prog 54 [.slice p B.length cap] [R] (aG fun v G => ∃ b, v = .pointer (some ⟨b, 0, none⟩) ∧ G = [HW b B 0 [] 0, R]) := by
 refine au [(0, _)] Tryz.func54 rfl Tryz.ntmps54 rfl rfl ?_
 intro w0 F
 refine (QH) ?_
 refine aj (nq p cap B R hR hl) V.AJ  rfl (aq .nil) rfl ?_
 rintro _ _ ⟨q, c, rfl, rfl⟩
 refine (V6) ?_
 refine oV (cn V.Ui V.Xm rfl (cs := [.slice q B.length c, .slice none 0 0, .int .i64 0, .int .i64 0]) rfl)<|(UW) ?_
 intro b7
 refine (Q8) ?_
 exact af (av rfl) ⟨b7, rfl, rfl⟩ ((cX (A := Row U5 none 0 0 []) (fun w0 => Row.nil _ _ _)).trans ((aM (.cons aw (.cons aw (aq .nil))) ak (fun w0 h hh => rK (p1 := q) (c1 := c) (p2 := none) (c2 := 0) (B := B) (out := []) (at_ := 0) (free := 0) hh)).trans (sub (aO .nil) ak)))
theorem ZO (w h ar : Int) (aZ : Bool) (d x : Int) (hd : aa.iA d) (hx : 0 ≤ x ∧ x < 2 ^ d.toNat) : az Tryz.prog 90 [.agg #[.int .i64 w, .int .i64 h, .int .i64 d, .int .i64 ar, .bool aZ], .int .i64 x] [] (aG fun v G => v = .int .u16 (aa.up d x) ∧ G = []) := by
 refine au [(0, _), (1, _)] Tryz.func90 rfl Tryz.ntmps90 rfl rfl ?_
 intro w0 F
 obtain ⟨P, hP⟩ : ∃ P : Int, P = 2 ^ d.toNat := ⟨_, rfl⟩
 have hpb : 2 ≤ P ∧ P ≤ 65536 := hP ▸ aa.lO hd
 have hdi := aa.iY hd
 have hxP : x < P := hP ▸ hx.2
 have hui := aa.Bu hd hx.1 hx.2
 have hq := Int.ediv_le_self (P - 1) (by decide : (0 : Int) ≤ 65535)
 have hq0 : 0 ≤ 65535 / (P - 1) := Int.ediv_nonneg (by decide) (by omega)
 refine (QD) ?_
 refine jE rfl (cs := [_, _, _, _, _]) rfl rfl ?_
 intro b2
 refine (Qd)<|(Qf)<|(Eu)<|(CO) ?_
 refine gV TT 1 rfl (by omega)<|(Vr)<|(V7)<|(Q8) ?_
 exact af (av rfl) ⟨rfl, rfl⟩ (sub .nil bp)
set_option maxHeartbeats 1000000 in
theorem FW (d : Int) (hd : aa.iA d) : az Tryz.prog 185 [.int .i64 d] [] (aG fun v G => v = .bool true ∧ G = []) := by
 refine au [(0, _)] Tryz.func185 rfl Tryz.ntmps185 rfl rfl ?_
 intro w0 F
 refine (QO) ?_
 rcases (aa.LI hd) with rfl | ⟨q0, rfl⟩ | ⟨q0, q1, rfl⟩ | ⟨q0, q1, q2, rfl⟩ | ⟨q0, q1, q2, q3, rfl⟩
 ·refine (QA)<|(xR)<|(QI) ?_
  exact af (av rfl) ⟨rfl, rfl⟩ (sub .nil ak)
 ·refine (QA)<|(qA)<|(Q1)<|(xR)<|(QI) ?_
  exact af (av rfl) ⟨rfl, rfl⟩ (sub .nil ak)
 ·refine (QA)<|(qA)<|(Q1)<|(qA)<|(Q1)<|(xR)<|(QI) ?_
  exact af (av rfl) ⟨rfl, rfl⟩ (sub .nil ak)
 ·refine (QA)<|(qA)<|(Q1)<|(qA)<|(Q1)<|(qA)<|(Q1)<|(xR)<|(QI) ?_
  exact af (av rfl) ⟨rfl, rfl⟩ (sub .nil ak)
 ·refine (QA)<|(qA)<|(Q1)<|(qA)<|(Q1)<|(qA)<|(Q1)<|(qA)<|(Q3)<|(xR)<|(QG) ?_
  exact af (av rfl) ⟨rfl, rfl⟩ (sub .nil ak)
set_option maxHeartbeats 1000000 in
theorem R0 (d x : Int) (hd : aa.iA d) (hx : 0 ≤ x ∧ x < 2 ^ d.toNat) : az Tryz.prog 172 [.int .i64 x, .int .i64 d] [] (aG fun v G => v = .tuple #[.int .u16 (aa.up d x), .bool true] ∧ G = []) := by
 refine au [(0, _), (1, _)] Tryz.func172 rfl Tryz.ntmps172 rfl rfl ?_
 intro w0 F
 obtain ⟨P, hP⟩ : ∃ P : Int, P = 2 ^ d.toNat := ⟨_, rfl⟩
 have hpb : 2 ≤ P ∧ P ≤ 65536 := hP ▸ aa.lO hd
 have hdi := aa.iY hd
 have hxP : x < P := hP ▸ hx.2
 have hui := aa.Bu hd hx.1 hx.2
 have hq := Int.ediv_le_self (P - 1) (by decide : (0 : Int) ≤ 65535)
 have hq0 : 0 ≤ 65535 / (P - 1) := Int.ediv_nonneg (by decide) (by omega)
 refine rT TT 10 rfl<|aj (FW d hd) V.Xc  rfl .nil rfl ?_
 rintro _ _ ⟨rfl, rfl⟩
 refine (Qj)<|(QE)<|(QC)<|(CO)<|(Q0)<|(m9)<|(Qg)<|(CO) ?_
 refine gV TT 1 rfl (by omega)<|(Vr)<|(V7)<|(Q3) ?_
 exact af (ez rfl rfl) ⟨rfl, rfl⟩ (sub .nil ak)
theorem sE (x : Int) (hx : 0 ≤ x ∧ x < 256) : az Tryz.prog 184 [.int .u8 x] [] (aG fun v G => v = .int .u16 (x * 257) ∧ G = []) := by
 refine au [(0, _)] Tryz.func184 rfl Tryz.ntmps184 rfl rfl ?_
 intro w0 F
 refine (QH)<|(QU) ?_
 refine aj (R0 8 x (.inr (.inr (.inr (.inl rfl)))) hx) V.RK  rfl .nil rfl ?_
 rintro _ _ ⟨rfl, rfl⟩
 rw [aa.Yh]
 refine (QK) ?_
 exact af (av rfl) ⟨rfl, rfl⟩ (sub .nil ak)
set_option maxHeartbeats 1000000 in
theorem XW (w h : Int) (hs : aa.aT w h = 0) (q : Option Addr) (n c : Nat) (hn : (n : Int) = 4 * w * h) (xx yy : Int) (hx : 0 ≤ xx ∧ xx < w) (hy : 0 ≤ yy ∧ yy < h) : az Tryz.prog 161 [.agg #[.int .i64 w, .int .i64 h, .slice q n c], .int .i64 xx, .int .i64 yy] [] (aG fun v G => v = .tuple #[.int .i64 (4 * (yy * w + xx)), .bool true] ∧ G = []) := by
 refine au [(0, _), (1, _), (2, _)] Tryz.func161 rfl Tryz.ntmps161 rfl rfl ?_
 intro w0 F
 have hsd := aa.il hs
 have hp := aa.qC hx hy
 have h44 : 4 * w * h = 4 * (w * h) := Int.mul_assoc _ _ _
 refine (rF) ?_
 intro b3
 refine (Q1)<|(rB) ?_
 refine aj (S6 w h q n c true (decide_eq_true ⟨hs, hn⟩).symm) V.Fj  rfl .nil rfl ?_
 rintro _ _ ⟨rfl, rfl⟩
 refine (Q6) ?_
 refine (Q0) ?_
 refine (QM) ?_
 refine (Q8) ?_
 refine (Q0) ?_
 refine (Qf) ?_
 refine (Q0) ?_
 refine (mg) ?_
 refine (Qi) ?_
 refine (Q0) ?_
 refine (QM) ?_
 refine (Q8) ?_
 refine (Q0) ?_
 refine (Qf) ?_
 refine (Q0) ?_
 refine (mg) ?_
 refine (Qk) ?_
 refine (Qf) ?_
 refine (AM) ?_
 exact af (ez rfl rfl) ⟨rfl, rfl⟩ (sub .nil bp)
set_option maxHeartbeats 2000000 in
theorem S4 (w h : Int) (hs : aa.aT w h = 0) (q : Option Addr) (n c : Nat) (hn : (n : Int) = 4 * w * h) (hcap : n ≤ c) (l : List Int) (xx yy : Int) (hx : 0 ≤ xx ∧ xx < w) (hy : 0 ≤ yy ∧ yy < h) (c0 c1 c2 c3 : Int) : az Tryz.prog 152 [.agg #[.int .i64 w, .int .i64 h, .slice q n c], .int .i64 xx, .int .i64 yy, .agg #[.int .u16 c0, .int .u16 c1, .int .u16 c2, .int .u16 c3]] [Row (aD 62 .u16) q n c l] (aG fun v G => v = .bool true ∧ G = [Row (aD 62 .u16) q n c (aa.jq w l xx yy [c0, c1, c2, c3])]) := by
 refine au [(0, _), (1, _), (2, _), (3, _)] Tryz.func152 rfl Tryz.ntmps152 rfl rfl ?_
 intro w0 F
 have hsd := aa.il hs
 have hp := aa.qC hx hy
 have h44 : 4 * w * h = 4 * (w * h) := Int.mul_assoc _ _ _
 refine (rF) ?_
 intro b4
 refine jE rfl (cs := CA [] .u16 [c0, c1, c2, c3] []) rfl rfl ?_
 intro b7
 refine (Q3)<|(rz)<|(Q6) ?_
 refine aj (XW w h hs q n c hn xx yy hx hy) V.Xd  rfl .nil rfl ?_
 rintro _ _ ⟨rfl, rfl⟩
 refine (QK) ?_
 refine wN [pz 0 [] [4], pz 1 [0] [], pz 0 [] [9], pz 7 [1, 2] [], pz 0 [] [7], pz 31 [3, 4] []] [⟨fun y => ai b7 68 (CA [] .u16 [c0, c1, c2, c3] []), none, none, [5]⟩, ⟨fun y => ai b4 26 [.int .i64 w, .int .i64 h, .slice q n c], none, none, [1]⟩, ⟨fun y => Row (aD 62 .u16) q n c l, none, some 5, []⟩, ⟨fun y => Row (aD 62 .u16) q n c (aa.jq w l xx yy [c0, c1, c2, c3]), some 5, none, []⟩] F V.mixed ?_
 refine nG V.sK ?_
 refine (Jo) ?_
 refine nM ?_
 refine nV (fun y hA L => eb ((4 * (yy * w + xx))).toNat _ _ V.gk rfl ⟨_, (show ao _ _ = some (.int _ (4 * (yy * w + xx))) from rfl).trans (by rw [Int.toNat_of_nonneg (by omega)])⟩ ⟨rfl, rfl⟩ rfl (by omega) (by omega) (by omega)) ?_
 refine nV (fun y hA L => vM V.mV rfl) ?_
 refine nE (fun y FF hA => wZ (Ns (c := (aD 62 .u16)) (k := (4 * (yy * w + xx)).toNat) (n := n) (cap := c) (l := l) (ws := [c0, c1, c2, c3]) (cnt := 4) rfl V.gk rfl rfl fM.head (YB (by exact .head _)) (by omega) (by omega) (by omega) (by omega)) (.refl _)) ?_
 refine (Qb) ?_
 intro y hA
 clear hA
 refine bj<|bE _ (.cons (d := 10) rfl (.nil _))<|bo (M := ai b7 68 (CA [] .u16 [c0, c1, c2, c3] []) :: ai b4 26 [.int .i64 w, .int .i64 h, .slice q n c] :: Row (aD 62 .u16) q n c (aa.jq w l xx yy [c0, c1, c2, c3]) :: F) (fun _ _ h => h)<|(Qs) ?_
 exact af (av rfl) ⟨rfl, rfl⟩ (sub (.cons bg .nil) fP)
end Go.Proofs.YtmaiakpjgomnpaaGreat
namespace Go.Proofs.YtmaiakpjgomnpaaGreat
open Go.Sl
theorem V.nK : fT Tryz.prog 35 = some 5 := by kernel_rfl
theorem V.k9 : fT Tryz.prog 68 = some 4 := by kernel_rfl
theorem V.OX : ay Tryz.prog 54 = true := by kernel_rfl
theorem V.UZ : ay Tryz.prog 55 = true := by kernel_rfl
theorem V.sL : ay Tryz.prog 56 = true := by kernel_rfl
theorem V.V8 : ay Tryz.prog 57 = true := by kernel_rfl
theorem V.Bm : aW Tryz.prog 35 0 = some 0 := by kernel_rfl
theorem V.tD : aW Tryz.prog 35 1 = some 1 := by kernel_rfl
theorem V.wx : aW Tryz.prog 35 2 = some 2 := by kernel_rfl
theorem V.qM : aW Tryz.prog 35 3 = some 3 := by kernel_rfl
theorem V.Zq : aW Tryz.prog 35 4 = some 4 := by kernel_rfl
theorem V.Nk : eC Tryz.prog 35 = some [(0, 1), (1, 1), (2, 1), (3, 1), (4, 1)] := by kernel_rfl
theorem V.RL : bZ Tryz.prog 105 = true := by kernel_rfl
theorem V.ld : bZ Tryz.prog 62 = true := by kernel_rfl
theorem V.z105 : cu Tryz.prog 105 = some ([.pointer none]) := by kernel_rfl
theorem V.vi : cu Tryz.prog 35 = some ([.int .i64 0, .int .i64 0, .int .i64 0, .int .i64 0, .bool false]) := by kernel_rfl
theorem V.yJ : cu Tryz.prog 68 = some ([.int .u16 0, .int .u16 0, .int .u16 0, .int .u16 0]) := by kernel_rfl
end Go.Proofs.YtmaiakpjgomnpaaGreat
namespace Go.Proofs.YtmaiakpjgomnpaaGreat
open Go.Sl 
attribute [local irreducible] ag.an aa.aT aa.up aa.bK aa.gh aa.Fg aa.eF aa.iq aa.deep aa.parts HW
abbrev HV (h : aa.Hd) : Value := .agg #[.int .i64 h.w, .int .i64 h.h, .int .i64 h.dep, .int .i64 h.ar, .bool h.aZ]
theorem M4 {w0 : World} {L : List ad} {c : Ec Int} {p : Option Addr} {n : Nat} {l X : List Int} (hsz : c.sz = 1) (H : Has w0 L c p n l) (k m : Nat) (h : k + 4 ≤ n) (hm : k + 4 ≤ m) (hX : (l.drop k).take 4 = X) : Has w0 L c (dq p k m 1) 4 X := by
 have := H.sub k (k + 4) m (by omega) h hm
 rw [hsz, Nat.add_sub_cancel_left, hX] at this
 exact this
set_option maxHeartbeats 2000000 in
theorem WQ (w h : Int) (hs : aa.aT w h = 0) (q : Option Addr) (n c : Nat) (hn : (n : Int) = 4 * w * h) (hcap : n ≤ c) (l : List Int) (hl : l.length = n) (R : ad) (hR : ∀ w0 h, R w0 h → aF (aD 62 .u16) q n l w0 h) (xx yy : Int) (hx : 0 ≤ xx ∧ xx < w) (hy : 0 ≤ yy ∧ yy < h) : az Tryz.prog 30 [.agg #[.int .i64 w, .int .i64 h, .slice q n c], .int .i64 xx, .int .i64 yy] [R] (aG fun v G => v = .tuple #[.agg (ints .u16 (aa.EZ w l xx yy)).toArray, .bool true] ∧ G = [R]) := by
 refine au [(0, _), (1, _), (2, _)] Tryz.func30 rfl Tryz.ntmps30 rfl rfl ?_
 intro w0 F
 have hsd := aa.il hs
 have hp := aa.qC hx hy
 have h44 : 4 * w * h = 4 * (w * h) := Int.mul_assoc _ _ _
 obtain ⟨c0, c1, c2, c3, hX⟩ := aa.XA (aa.KW (w := w) (pix := l) (x := xx) (y := yy) (by omega))
 have hX2 : (l.drop (4 * (yy * w + xx)).toNat).take 4 = [c0, c1, c2, c3] := hX
 refine (rF) ?_
 intro b3
 refine (rq) ?_
 intro b6
 refine (Q3)<|(rq) ?_
 intro b8
 refine (Q3) ?_
 refine oV (dv V.fZ rfl dW (vs := [_, _, _]) rfl rfl)<|aj (oy w h q n c true (decide_eq_true ⟨hs, hn⟩).symm) V.nf  rfl .nil rfl ?_
 rintro _ _ ⟨rfl, rfl⟩
 refine (Qi) ?_
 refine (Q0) ?_
 refine (QE) ?_
 refine (Qi) ?_
 refine (Q0) ?_
 refine (QE) ?_
 refine (Q8) ?_
 refine (Q0) ?_
 refine (QN) ?_
 refine (Q0) ?_
 refine (m9) ?_
 refine (Q8) ?_
 refine (Q0) ?_
 refine (QN) ?_
 refine (Q0) ?_
 refine (m9) ?_
 refine (Qd) ?_
 refine wN [pz 0 [] [8], pz 0 [] [3], pz 2 [1] [], pz 0 [] [2], pz 0 [] [3], pz 16 [4] [], pz 56 [3, 5] [], pz 0 [] [1], pz 248 [6, 7] [], pz 504 [8] [], pz 1022 [2, 9] [], pz 2047 [0, 10] []] [⟨fun y => ai b8 68 [.int .u16 0, .int .u16 0, .int .u16 0, .int .u16 0], none, some 11, []⟩, ⟨fun y => ai b6 68 [.int .u16 0, .int .u16 0, .int .u16 0, .int .u16 0], none, none, []⟩, ⟨fun y => ai b3 26 [.int .i64 w, .int .i64 h, .slice q n c], none, none, [2, 5]⟩, ⟨fun y => R, none, none, [11]⟩, ⟨fun y => ai b8 68 (CA [] .u16 [c0, c1, c2, c3] []), some 11, none, []⟩] F V.mixed ?_
 refine nV (fun y hA L => vM V.mV rfl) ?_
 refine nG V.sK ?_
 refine (Jo) ?_
 refine nM ?_
 refine nG V.Jx ?_
 refine (Qv) ?_
 refine (SG) ?_
 refine nM ?_
 refine (Qy) ?_
 refine (SG) ?_
 refine nV (fun y hA L => eb ((4 * ((yy * w) + xx))).toNat _ _ V.gk rfl ⟨_, (show ao _ _ = some (.int _ (4 * ((yy * w) + xx))) from rfl).trans (by rw [Int.toNat_of_nonneg (by omega)])⟩ ⟨rfl, rfl⟩ rfl (by omega) (by omega) (by omega)) ?_
 refine nE (fun y FF hA => wZ (Kq (k := .u16) (T' := 62) (xs := [0, 0, 0, 0]) (ws := [c0, c1, c2, c3]) (cnt := 4) V.gk rfl rfl fM.head (M4 rfl (by exact bM hR aB) (4 * (yy * w + xx)).toNat c (by omega) (by omega) hX2) (by omega) rfl) (.refl _)) ?_
 refine (Qb) ?_
 intro y hA
 clear hA
 refine bj<|bE _ (.cons (d := 6) rfl (.cons (d := 8) rfl (.nil _)))<|bo (M := ai b6 68 [.int .u16 0, .int .u16 0, .int .u16 0, .int .u16 0] :: ai b3 26 [.int .i64 w, .int .i64 h, .slice q n c] :: R :: ai b8 68 (CA [] .u16 [c0, c1, c2, c3] []) :: F) (fun _ _ h => h)<|(Q9) ?_
 refine oV (cY (v := .agg #[.int .u16 c0, .int .u16 c1, .int .u16 c2, .int .u16 c3]) (vP V.k9 rfl iH rfl rfl) rfl)<|(Es)<|(Q8) ?_
 exact af (dP V.k9 rfl aB rfl rfl) ⟨by rw [hX]; rfl, rfl⟩ (sub (.cons bg .nil) mw)
set_option maxHeartbeats 2000000 in
theorem Ef (w1 h1 : Int) (q1 : Option Addr) (n1 c1 : Nat) (L1 : List Int) (hn1 : L1.length = n1) (R1 : ad) (hR1 : ∀ w0 h, R1 w0 h → aF (aD 62 .u16) q1 n1 L1 w0 h) (w2 h2 : Int) (q2 : Option Addr) (n2 c2 : Nat) (L2 : List Int) (hn2 : L2.length = n2) (R2 : ad) (hR2 : ∀ w0 h, R2 w0 h → aF (aD 62 .u16) q2 n2 L2 w0 h) (hs1 : n1 ≤ 100000000) (t : Bool) (ht : t = decide (aa.iq w1 h1 n1 w2 h2 n2 L1 L2)) : az Tryz.prog 23 [.agg #[.int .i64 w1, .int .i64 h1, .slice q1 n1 c1], .agg #[.int .i64 w2, .int .i64 h2, .slice q2 n2 c2]] [R1, R2] (aG fun v G => v = .bool t ∧ G = [R1, R2]) := by
 refine au [(0, _), (1, _)] Tryz.func23 rfl Tryz.ntmps23 rfl rfl ?_
 intro w0 F
 refine (rF) ?_
 intro b2
 refine (VE) ?_
 intro b3
 refine (Qi) ?_
 rcases (aa.Ta w1 h1 n1 w2 h2 n2 L1 L2) with ⟨a, hs⟩ | ⟨a, a2, hs⟩ | ⟨a, a2, a3, hs⟩ | ⟨a, a2, a3, a4, hs⟩ | ⟨a, a2, a3, a4, a5⟩
 ·refine (Q5)<|(rz) ?_
  refine aj (oy w1 h1 q1 n1 c1 false (decide_eq_false a).symm) V.nf  rfl .nil rfl ?_
  rintro _ _ ⟨rfl, rfl⟩
  refine rO TT 30 rfl ?_
  obtain rfl : t = false := ht.trans (decide_eq_false hs)
  exact af (av rfl) ⟨rfl, rfl⟩ (sub (.cons bg (.cons bg .nil)) fP)
 ·refine (Q5)<|(rz)<|(H5) ?_
  rintro _ _ ⟨rfl, rfl⟩
  refine (Ql)<|(rB)<|(Q0) ?_
  refine aj (oy w2 h2 q2 n2 c2 false (decide_eq_false a2).symm) V.nf  rfl .nil rfl ?_
  rintro _ _ ⟨rfl, rfl⟩
  refine rO TT 26 rfl ?_
  obtain rfl : t = false := ht.trans (decide_eq_false hs)
  exact af (av rfl) ⟨rfl, rfl⟩ (sub (.cons bg (.cons bg .nil)) fP)
 ·refine (Q5)<|(rz)<|(H5) ?_
  rintro _ _ ⟨rfl, rfl⟩
  refine (Ql)<|(rB)<|(Q0)<|(NP) ?_
  rintro _ _ ⟨rfl, rfl⟩
  refine (QC)<|(QW)<|(Q0)<|(AS)<|(Q0)<|(QP) ?_
  refine oV (cQ (cL rfl rfl) a3)<|rO TT 18 rfl ?_
  obtain rfl : t = false := ht.trans (decide_eq_false hs)
  exact af (av rfl) ⟨rfl, rfl⟩ (sub (.cons bg (.cons bg .nil)) fP)
 ·refine (Q5)<|(rz)<|(H5) ?_
  rintro _ _ ⟨rfl, rfl⟩
  refine (Ql)<|(rB)<|(Q0)<|(NP) ?_
  rintro _ _ ⟨rfl, rfl⟩
  refine (QC)<|(QW)<|(Q0)<|(AS)<|(Q0)<|(QP) ?_
  refine oV (bV (cL rfl rfl) (fun hh => hh a3))<|(Qj)<|(QW)<|(Q0)<|(yK)<|(Q0)<|(QP) ?_
  refine oV (cQ (cL rfl rfl) a4)<|(Qp) ?_
  obtain rfl : t = false := ht.trans (decide_eq_false hs)
  exact af (av rfl) ⟨rfl, rfl⟩ (sub (.cons bg (.cons bg .nil)) fP)
 ·refine (Q5)<|(rz)<|(H5) ?_
  rintro _ _ ⟨rfl, rfl⟩
  refine (Ql)<|(rB)<|(Q0)<|(NP) ?_
  rintro _ _ ⟨rfl, rfl⟩
  refine (QC)<|(QW)<|(Q0)<|(AS)<|(Q0)<|(QP) ?_
  refine oV (bV (cL rfl rfl) (fun hh => hh a3))<|(Qj)<|(QW)<|(Q0)<|(yK)<|(Q0)<|(QP) ?_
  refine oV (bV (cL rfl rfl) (fun hh => hh a4))<|(Qq) ?_
  refine cB (fun (i : Nat) => [(2, .pointer (some ⟨b2, 0, none⟩)), (3, .pointer (some ⟨b3, 0, none⟩)), (5, .int .i64 (i : Int))]) (fun (i : Nat) => ai b3 26 [.int .i64 w2, .int .i64 h2, .slice q2 n2 c2] :: ai b2 26 [.int .i64 w1, .int .i64 h1, .slice q1 n1 c1] :: R1 :: R2 :: F) (fun (i : Nat) => i ≤ n1 ∧ ∀ j, j < i → L1.getD j 0 = L2.getD j 0) (fun (i : Nat) => n1 - i) (i1 (0) ?_ (gK ln) (sub (lZ .nil) ak)) ?_
  ·exact ⟨Nat.zero_le _, fun j hj => by omega⟩
  intro i
  rintro ⟨hi, hall⟩
  refine rL TT 5 rfl<|oV (aA V.vW rfl dm rfl)<|(Q8) ?_
  refine aC rfl (fun h32 => ?_) (fun h32 => ?_)
  ·refine (Q4) ?_
   rcases (Classical.em (((aD 62 .u16).g L1 (i : Int)) ≠ ((aD 62 .u16).g L2 (i : Int)))) with hne | hne
   ·refine (Qa)<|(tl)<|(Ip) ?_
    refine oR (aA V.vW rfl dm rfl)<|oR (fY rfl)<|(Wh)<|(Ip) ?_
    refine oR (aA V.vW rfl aB rfl)<|oR (fY rfl)<|(Wo) ?_
    refine oR (cQ (cL rfl rfl) hne)<|Rg.dh<|rN TT 13 rfl ?_
    obtain rfl : t = false := ht.trans (decide_eq_false (fun hh => aa.Ij hne (by unfold aa.iq at hh; exact hh.2.2.2.2)))
    exact af (av rfl) ⟨rfl, rfl⟩ (sub (.cons bg (.cons bg .nil)) fP)
   ·refine (Qa)<|(tl)<|(Ip) ?_
    refine oR (aA V.vW rfl dm rfl)<|oR (fY rfl)<|(Wh)<|(Ip) ?_
    refine oR (aA V.vW rfl aB rfl)<|oR (fY rfl)<|(Wo) ?_
    refine oR (bV (cL rfl rfl) hne)<|Rg.dh<|Nt TT 10 rfl (by omega) ?_
    refine j1 (i + 1) ?_ (gK ln) (sub (lZ .nil) ak)
    exact ⟨⟨by omega, fun j hj => (Nat.lt_succ_iff_lt_or_eq.1 hj).elim (hall j) (fun e => e ▸ Classical.not_not.1 hne)⟩, by omega⟩
  ·refine (o5) ?_
   obtain rfl : t = true := ht.trans (decide_eq_true (by unfold aa.iq; exact ⟨a, a2, a3, a4, aa.Dj (by omega) (fun j hj => hall j (by omega))⟩))
   exact af (av rfl) ⟨rfl, rfl⟩ (sub (.cons bg (.cons bg .nil)) fP)
set_option maxHeartbeats 1000000 in
theorem DJ (b b4 : Nat) (B : List Int) (out : List Int) (free : Int) (hl : B.length < 500000000) (hB : ag.an B) (j : Nat) (hj : j + 4 ≤ B.length) : az Tryz.prog 55 [.pointer (some ⟨b4, 0, none⟩)] [HW b B (8 * j) out free, ai b4 105 [.pointer (some ⟨b, 0, none⟩)]] (aG fun v G => v = .int .i64 (aH.cR (B.drop j)) ∧ G = [HW b B (8 * j + 32) out free, ai b4 105 [.pointer (some ⟨b, 0, none⟩)]]) := by
 refine au [(0, _)] Tryz.func55 rfl Tryz.ntmps55 rfl rfl ?_
 intro w0 F
 have h1 := aa.Cy B (8 * j)
 have h2 := aa.Cy B (8 * j + 16)
 refine (me) ?_
 refine wN [pz 0 [] [0], pz 1 [0] [], pz 3 [1] [], pz 0 [] [0], pz 11 [3] [], pz 31 [2, 4] [], pz 63 [5] []] [⟨fun y => HW b B (8 * j) out free, none, some 1, []⟩, ⟨fun y => ai b4 105 [.pointer (some ⟨b, 0, none⟩)], none, none, [0, 3]⟩, ⟨fun y => HW b B (8 * j + 16) out free, some 1, some 4, []⟩, ⟨fun y => HW b B (8 * j + 16 + 16) out free, some 4, none, []⟩] F V.mixed ?_
 refine (yU) ?_
 refine nE (fun y FF hA => aV (Post := [HW b B (8 * j + 16) out free]) (jC b B (8 * j) out free 16 hl hB (by decide) (by omega)) V.sL rfl (aq .nil) (fun v G h => by rcases h with ⟨rfl, rfl⟩; exact ⟨rfl, .refl _⟩)) ?_
 refine nV (fun y hA L => iQ (r := (aa.bK B (8 * j) 16) * 65536) rfl rfl (by decide) (aH.Gz (n := 16) rfl (by decide) rfl (by omega) (by omega))) ?_
 refine (yU) ?_
 refine nE (fun y FF hA => aV (Post := [HW b B (8 * j + 16 + 16) out free]) (jC b B (8 * j + 16) out free 16 hl hB (by decide) (by omega)) V.sL rfl (aq .nil) (fun v G h => by rcases h with ⟨rfl, rfl⟩; exact ⟨rfl, .refl _⟩)) ?_
 refine nV (fun y hA L => qb (r := (aa.bK B (8 * j) 16) * 65536 + (aa.bK B (8 * j + 16) 16)) rfl rfl (aH.uz (u := (aa.bK B (8 * j) 16)) (n := 16) rfl h1.1 (by omega) (by omega))) ?_
 refine nA ?_
 refine (Qb) ?_
 intro y hA
 clear hA
 refine bj<|bE _ (.cons (d := 1) rfl (.nil _))<|bo (M := ai b4 105 [.pointer (some ⟨b, 0, none⟩)] :: HW b B (8 * j + 16 + 16) out free :: F) (fun _ _ h => h)<|(Qa) ?_
 exact af (av rfl) ⟨congrArg (Value.int .i64) (aa.MF hB j), rfl⟩ (sub (.cons aw (aq .nil)) ak)
set_option maxHeartbeats 4000000 in
theorem PG (p : Option Addr) (c : Nat) (B : List Int) (R : ad) (hR : ∀ w0 h, R w0 h → aF U5 p B.length B w0 h) (hB : ag.an B) : az Tryz.prog 17 [.slice p B.length c] [R] (aG fun v G => v = .tuple #[HV (aa.Nz B), .int .i64 (aa.eF B)] ∧ G = [R]) := by
 refine au [(0, _)] Tryz.func17 rfl Tryz.ntmps17 rfl rfl ?_
 intro w0 F
 have hb8 := hB.get 8
 have hb9 := hB.get 9
 have hb10 := hB.get 10
 have hb11 := hB.get 11
 have hb12 := hB.get 12
 refine (QD) ?_
 refine cS V.vi rfl ?_
 intro b2
 refine (Qi) ?_
 rcases (Classical.em (B.length ≠ 13)) with h0 | h0
 ·refine (Qe)<|(Rh)<|(Q3)<|(xf)<|(vg)<|(Q3) ?_
  exact af (dP V.nK rfl aB rfl rfl) ⟨by rw [aa.CT h0, aa.n8 (aa.CT h0) (by decide)]; rfl, rfl⟩ (sub (.cons aw .nil) bp)
 ·refine (Qe)<|(vX)<|(Qk) ?_
  refine aj (ya p c B R hR (by omega)) V.OX  rfl (.cons aw .nil) rfl ?_
  rintro _ _ ⟨bx, rfl, rfl⟩
  refine cS V.z105 rfl ?_
  intro b4
  refine cy (dK V.RL rfl rfl rfl (by exact fI) (by exact Nat.le_of_ble_eq_true rfl) rfl)<|(Q8) ?_
  refine oV (Cf (fs := []) (cs := [_]) rfl rfl)<|(Q8) ?_
  refine jD [pz 0 [] [5], pz 1 [0] [], pz 0 [] [5], pz 7 [2] [], pz 0 [] [4], pz 31 [4] [], pz 0 [] [4], pz 127 [6] [], pz 255 [1, 3, 5, 7] [], pz 0 [] [], pz 1023 [9, 8] []] [⟨fun y => ai b4 105 [.pointer (some ⟨bx, 0, none⟩)], none, none, [1, 3, 4, 6]⟩, ⟨fun y => HW bx B (8 * 0) [] 0, none, some 1, []⟩, ⟨fun y => R, none, none, []⟩, ⟨fun y => ai b2 35 [.int .i64 0, .int .i64 0, .int .i64 0, .int .i64 0, .bool false], none, none, []⟩, ⟨fun y => HW bx B (8 * 4) [] 0, some 1, some 3, []⟩, ⟨fun y => HW bx B (8 * 8) [] 0, some 3, some 5, []⟩, ⟨fun y => HW bx B (8 * 9) [] 0, some 5, some 7, []⟩, ⟨fun y => HW bx B (8 * 10) [] 0, some 7, none, []⟩, ⟨fun y => ai (fe (y 9)) 35 [.int .i64 0, .int .i64 0, .int .i64 0, .int .i64 0, .bool false], some 9, some 10, []⟩, ⟨fun y => ai (fe (y 9)) 35 [.int .i64 (aH.cR B), .int .i64 (aH.cR (B.drop 4)), .int .i64 (B.getD 8 0), .int .i64 (B.getD 9 0), .bool false], some 10, none, []⟩] F V.mixed (by kernel_rfl) rfl (fun _ => .refl _) (aP _ (aP _ (aP _ (aP _ (cT _ rfl (by intro y y2 h; rfl) (cT _ rfl (by intro y y2 h; rfl) (cT _ rfl (by intro y y2 h; rfl) (cT _ rfl (by intro y y2 h; rfl) (cT _ rfl (by intro y y2 h; simp only [h 9 (.inl rfl)]) (cT _ rfl (by intro y y2 h; simp only [h 9 (.inr (by decide))]) ft))))))))))<|nM<|nE (fun y FF hA => kl (vs := []) (fs := []) (cs := [.pointer (some ⟨b4, 0, none⟩)]) (Post := [HW bx B (8 * 4) [] 0, ai b4 105 [.pointer (some ⟨bx, 0, none⟩)]]) (DJ bx b4 B [] 0 (by omega) hB 0 (by omega)) V.UZ rfl rfl (aO .nil) (fun v G h => by rcases h with ⟨rfl, rfl⟩; exact ⟨rfl, .refl _⟩))<|nM<|nE (fun y FF hA => kl (vs := []) (fs := []) (cs := [.pointer (some ⟨b4, 0, none⟩)]) (Post := [HW bx B (8 * 8) [] 0, ai b4 105 [.pointer (some ⟨bx, 0, none⟩)]]) (DJ bx b4 B [] 0 (by omega) hB 4 (by omega)) V.UZ rfl rfl (aO .nil) (fun v G h => by rcases h with ⟨rfl, rfl⟩; exact ⟨rfl, .refl _⟩))<|(yU) ?_
  refine nE (fun y FF hA => aV (Post := [HW bx B (8 * 9) [] 0]) (jC bx B (8 * 8) [] 0 8 (by omega) hB (by decide) (by omega)) V.sL rfl (aq .nil) (fun v G h => by rcases h with ⟨rfl, rfl⟩; exact ⟨by rw [aa.mm (hB.get 8)], .refl _⟩))<|(yU) ?_
  refine nE (fun y FF hA => aV (Post := [HW bx B (8 * 10) [] 0]) (jC bx B (8 * 9) [] 0 8 (by omega) hB (by decide) (by omega)) V.sL rfl (aq .nil) (fun v G h => by rcases h with ⟨rfl, rfl⟩; exact ⟨by rw [aa.mm (hB.get 9)], .refl _⟩))<|nV (fun y hA L => cn V.Nk V.vi rfl (cs := [.int .i64 (aH.cR B), .int .i64 (aH.cR (B.drop 4)), .int .i64 (B.getD 8 0), .int .i64 (B.getD 9 0), .bool false]) (by kernel_rfl))<|fc (fun y v => .pointer (some ⟨fe v, 0, none⟩)) (fun y v => True) _ _ (fun y v => [ai (fe v) 35 [.int .i64 0, .int .i64 0, .int .i64 0, .int .i64 0, .bool false]]) _ (fun y => rfl) (fun y => rfl) (fun y => rfl) (fun y => rfl) (fun y FF hA => vR (uF V.vi)) (by intros; rfl) (by intros; rfl) (by intros; rfl) (by intro y y2 h; simp only [h 9 (.inl rfl)]) (by intro y y2 h; rfl)<|nE (fun y FF hA => dD (bb V.nK rfl rfl (us := [_, _, _, _, _]) rfl rfl (by exact fI) (by exact Nat.le_of_ble_eq_true rfl) rfl) ⟨rfl, .refl _⟩)<|(Qb) ?_
  intro y hA
  clear hA
  refine bj<|bE [(2, .pointer (some ⟨b2, 0, none⟩)), (4, .pointer (some ⟨b4, 0, none⟩)), (6, .pointer (some ⟨(fe (y 9)), 0, none⟩))] (.cons (d := 2) rfl (.cons (d := 4) rfl (.cons (d := 6) rfl (.nil _))))<|bo (M := ai b4 105 [.pointer (some ⟨bx, 0, none⟩)] :: R :: ai b2 35 [.int .i64 0, .int .i64 0, .int .i64 0, .int .i64 0, .bool false] :: HW bx B (8 * 10) [] 0 :: ai (fe (y 9)) 35 [.int .i64 (aH.cR B), .int .i64 (aH.cR (B.drop 4)), .int .i64 (B.getD 8 0), .int .i64 (B.getD 9 0), .bool false] :: F) (fun _ _ h => h) ?_
  generalize (fe (y 9)) = b6
  refine (Qa) ?_
  refine wN [pz 0 [] [4], pz 1 [0] [], pz 0 [] [4], pz 7 [2] [], pz 0 [] [4], pz 31 [4] [], pz 63 [1] [], pz 127 [3] [], pz 255 [5] []] [⟨fun y => ai b4 105 [.pointer (some ⟨bx, 0, none⟩)], none, none, [0, 2, 4]⟩, ⟨fun y => R, none, none, []⟩, ⟨fun y => ai b2 35 [.int .i64 0, .int .i64 0, .int .i64 0, .int .i64 0, .bool false], none, none, []⟩, ⟨fun y => HW bx B (8 * 10) [] 0, none, some 1, []⟩, ⟨fun y => ai b6 35 [.int .i64 (aH.cR B), .int .i64 (aH.cR (B.drop 4)), .int .i64 (B.getD 8 0), .int .i64 (B.getD 9 0), .bool false], none, none, []⟩, ⟨fun y => HW bx B (8 * 11) [] 0, some 1, some 3, []⟩, ⟨fun y => HW bx B (8 * 12) [] 0, some 3, some 5, []⟩, ⟨fun y => HW bx B (8 * 13) [] 0, some 5, none, []⟩] F V.mixed<|(yU) ?_
  refine nE (fun y FF hA => aV (Post := [HW bx B (8 * 11) [] 0]) (jC bx B (8 * 10) [] 0 8 (by omega) hB (by decide) (by omega)) V.sL rfl (aq .nil) (fun v G h => by rcases h with ⟨rfl, rfl⟩; exact ⟨by rw [aa.mm (hB.get 10)], .refl _⟩))<|(yU) ?_
  refine nE (fun y FF hA => aV (Post := [HW bx B (8 * 12) [] 0]) (jC bx B (8 * 11) [] 0 8 (by omega) hB (by decide) (by omega)) V.sL rfl (aq .nil) (fun v G h => by rcases h with ⟨rfl, rfl⟩; exact ⟨by rw [aa.mm (hB.get 11)], .refl _⟩))<|(yU) ?_
  refine nE (fun y FF hA => aV (Post := [HW bx B (8 * 13) [] 0]) (jC bx B (8 * 12) [] 0 8 (by omega) hB (by decide) (by omega)) V.sL rfl (aq .nil) (fun v G h => by rcases h with ⟨rfl, rfl⟩; exact ⟨by rw [aa.mm (hB.get 12)], .refl _⟩)) ?_
  iterate 3 refine nA ?_
  refine (Qb) ?_
  intro y hA
  clear hA
  refine bj<|bE [(2, .pointer (some ⟨b2, 0, none⟩)), (6, .pointer (some ⟨b6, 0, none⟩)), (7, .int .i64 (B.getD 10 0)), (8, .int .i64 (B.getD 11 0)), (9, .int .i64 (B.getD 12 0))] (.cons (d := 2) rfl (.cons (d := 6) rfl (.cons (d := 7) rfl (.cons (d := 8) rfl (.cons (d := 9) rfl (.nil _))))))<|bo (M := ai b4 105 [.pointer (some ⟨bx, 0, none⟩)] :: R :: ai b2 35 [.int .i64 0, .int .i64 0, .int .i64 0, .int .i64 0, .bool false] :: ai b6 35 [.int .i64 (aH.cR B), .int .i64 (aH.cR (B.drop 4)), .int .i64 (B.getD 8 0), .int .i64 (B.getD 9 0), .bool false] :: HW bx B (8 * 13) [] 0 :: F) (fun _ _ h => h)<|(Qe) ?_
  refine cy (dK V.s4 rfl rfl rfl (by exact I1) (by exact Nat.le_of_ble_eq_true rfl) rfl)<|(Q6) ?_
  rcases (aa.Yt h0) with ⟨_, a1, hs⟩ | ⟨_, a1, a2, hs⟩ | ⟨_, a1, a2, a3, hs⟩ | ⟨_, a1, a2, a3, a4, hs⟩ | ⟨_, a1, a2, a3, a4, a5, hs⟩ | ⟨_, a1, a2, a3, a4, a5, a6, hs⟩ | ⟨_, a1, a2, a3, a4, a5, a6, hs⟩
  ·refine (Q4)<|(Qt)<|(yV)<|(Qt) ?_
   refine aj (DA (B.getD 9 0) (B.getD 8 0) false (decide_eq_false a1).symm) V.V8  rfl .nil rfl ?_
   rintro _ _ ⟨rfl, rfl⟩
   refine rO TT 26 rfl<|(xf)<|(xA)<|(Q3) ?_
   exact af (dP V.nK rfl dW rfl rfl) ⟨by rw [hs, aa.n8 hs (by decide)]; rfl, rfl⟩ (sub (.cons aw .nil) lA)
  ·refine (Q4)<|(Qt)<|(yV)<|(Qt)<|(A6) ?_
   rintro _ _ ⟨rfl, rfl⟩
   refine (xb)<|(Q0) ?_
   refine oV (cQ (dz rfl rfl) a2)<|rO TT 20 rfl<|(xf)<|(xA)<|(Q3) ?_
   exact af (dP V.nK rfl dW rfl rfl) ⟨by rw [hs, aa.n8 hs (by decide)]; rfl, rfl⟩ (sub (.cons aw .nil) lA)
  ·refine (Q4)<|(Qt)<|(yV)<|(Qt)<|(A6) ?_
   rintro _ _ ⟨rfl, rfl⟩
   refine (xb)<|(Q0)<|(FK)<|(Qj) ?_
   refine oV (cQ (dz rfl rfl) a3)<|rO TT 16 rfl<|(xf)<|(xA)<|(Q3) ?_
   exact af (dP V.nK rfl dW rfl rfl) ⟨by rw [hs, aa.n8 hs (by decide)]; rfl, rfl⟩ (sub (.cons aw .nil) lA)
  ·refine (Q4)<|(Qt)<|(yV)<|(Qt)<|(A6) ?_
   rintro _ _ ⟨rfl, rfl⟩
   refine (xb)<|(Q0)<|(FK)<|(Qj)<|(Jr)<|(Qj)<|(Qt)<|(Q0) ?_
   refine oV (cQ (dE rfl rfl) a4)<|(Qp)<|(xf)<|(xA)<|(Q3) ?_
   exact af (dP V.nK rfl dW rfl rfl) ⟨by rw [hs, aa.n8 hs (by decide)]; rfl, rfl⟩ (sub (.cons aw .nil) lA)
  ·refine (Q4)<|(Qt)<|(yV)<|(Qt)<|(A6) ?_
   rintro _ _ ⟨rfl, rfl⟩
   refine (xb)<|(Q0)<|(FK)<|(Qj)<|(Jr)<|(Qj)<|(Qt)<|(Q0)<|(I0)<|(Qj)<|(Qt)<|(Q0) ?_
   refine oV (cQ (dE rfl rfl) a5)<|(Q1)<|(xf)<|(xA)<|(Q3) ?_
   exact af (dP V.nK rfl dW rfl rfl) ⟨by rw [hs, aa.n8 hs (by decide)]; rfl, rfl⟩ (sub (.cons aw .nil) lA)
  ·refine (Q4)<|(Qt)<|(yV)<|(Qt)<|(A6) ?_
   rintro _ _ ⟨rfl, rfl⟩
   refine (xb)<|(Q0)<|(FK)<|(Qj)<|(Jr)<|(Qj)<|(Qt)<|(Q0)<|(I0)<|(Qj)<|(Qt)<|(Q0) ?_
   refine oV (bV (dE rfl rfl) a5)<|(Qg)<|(Qt) ?_
   refine oV (bd V.tD rfl)<|(U6) ?_
   rintro _ _ ⟨rfl, rfl⟩
   refine oV (cQ (cL rfl rfl) a6)<|(Q3)<|(xf)<|(xA)<|(Q3) ?_
   exact af (dP V.nK rfl dW rfl rfl) ⟨by rw [hs, aa.n8 hs (by decide)]; rfl, rfl⟩ (sub (.cons aw .nil) lA)
  ·refine (Q4)<|(Qt)<|(yV)<|(Qt)<|(A6) ?_
   rintro _ _ ⟨rfl, rfl⟩
   refine (xb)<|(Q0)<|(FK)<|(Qj)<|(Jr)<|(Qj)<|(Qt)<|(Q0)<|(I0)<|(Qj)<|(Qt)<|(Q0) ?_
   refine oV (bV (dE rfl rfl) a5)<|(Qg)<|(Qt) ?_
   refine oV (bd V.tD rfl)<|(U6) ?_
   rintro _ _ ⟨rfl, rfl⟩
   refine oV (bV (cL rfl rfl) a6)<|(Qd) ?_
   refine oV (dv V.nK rfl iH (vs := [_, _, _, _, _]) rfl rfl)<|(xA)<|(Q8) ?_
   exact af (dP V.nK rfl dW rfl rfl) ⟨by rw [hs, aa.wB hs]; rfl, rfl⟩ (sub (.cons aw .nil) lA)
end Go.Proofs.YtmaiakpjgomnpaaGreat
namespace Go.Proofs.YtmaiakpjgomnpaaGreat
open Go.Sl
theorem V.R4 : fT Tryz.prog 90 = some 9 := by kernel_rfl
theorem V.gG : aW Tryz.prog 90 0 = some 0 := by kernel_rfl
theorem V.Un : aW Tryz.prog 90 1 = some 5 := by kernel_rfl
theorem V.tc : aW Tryz.prog 90 2 = some 6 := by kernel_rfl
theorem V.S5 : aW Tryz.prog 90 3 = some 7 := by kernel_rfl
theorem V.H3 : aW Tryz.prog 90 4 = some 8 := by kernel_rfl
theorem V.H6 : cu Tryz.prog 90 = some ([.int .i64 0, .int .i64 0, .int .i64 0, .int .i64 0, .bool false, .slice none 0 0, .slice none 0 0, .slice none 0 0, .slice none 0 0]) := by kernel_rfl
end Go.Proofs.YtmaiakpjgomnpaaGreat

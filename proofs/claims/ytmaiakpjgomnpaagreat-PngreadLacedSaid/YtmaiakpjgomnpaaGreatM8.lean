/- Walks of functions that the law reaches, and what they lean on; no conditions. -/
import Derived.Test.YtmaiakpjgomnpaaGreatM0
import Derived.Test.YtmaiakpjgomnpaaGreatM4
import Derived.Test.YtmaiakpjgomnpaaGreatM2
import Derived.Test.YtmaiakpjgomnpaaGreatM1
import Derived.KernelRfl
import Derived.Test.YtmaiakpjgomnpaaGreatM7
set_option linter.unusedVariables false
set_option linter.unusedSimpArgs false
set_option maxRecDepth 100000
namespace Go.Proofs.YtmaiakpjgomnpaaGreat
open Go.Sl 
attribute [local irreducible] ag.an aa.aT aa.up aa.bK aa.gh aa.Fg aa.deep aa.parts HW aa.ba aa.aS aa.aY aa.a8 aa.bQ aa.iy aa.iM aa.l9 aa.aQ aa.bU
theorem zL {es : List Ce} {i : Nat} {kk : List Int} (hi : i ≤ es.length) (h : ∀ j : Nat, j < i → (aR.g es (j : Int)).k ≠ kk) : ∀ j, j < i → ∀ c, (es.map Ce.ch)[j]? = some c → c.k ≠ kk := fun j hj c hc => by
 rw [pO (by omega)] at hc
 cases hc
 exact h j hj
theorem tW {es : List Ce} {x : Ce} (hx : x ∈ es) : ∀ w0 h, DK es w0 h → aF U5 x.p x.d.length x.d w0 h := fun w0 h hh => (hh x hx).rd
theorem GN (R : ad) : ∀ w0 h, R w0 h → aF U5 none 0 [] w0 h := fun _ _ _ => ⟨rfl, rfl, .inl rfl⟩
structure o7 where
 pp : Option Addr
 cp : Nat
 P : List Int
 pt : Option Addr
 ct : Nat
 T : List Int
 pd : Option Addr
 cd : Nat
 D : List Int
 hp : Bool
 ht : Bool
def lE (es : List Ce) (i : Nat) (s : o7) : Prop := s.P = aa.kX ((es.map Ce.ch).take i) aa.aS ∧ s.T = aa.kX ((es.map Ce.ch).take i) aa.aY ∧ s.D = aa.bU ((es.map Ce.ch).take i) ∧ s.hp = aa.dZ ((es.map Ce.ch).take i) aa.aS ∧ s.ht = aa.dZ ((es.map Ce.ch).take i) aa.aY ∧ s.P.length ≤ s.cp ∧ s.T.length ≤ s.ct ∧ (∀ w0 h, DK es w0 h → aF U5 s.pp s.P.length s.P w0 h) ∧ ∀ w0 h, DK es w0 h → aF U5 s.pt s.T.length s.T w0 h
theorem T8 (es : List Ce) : lE es 0 ⟨none, 0, [], none, 0, [], none, 0, [], false, false⟩ := ⟨rfl, rfl, by unfold aa.bU; rfl, rfl, rfl, Nat.le_refl _, Nat.le_refl _, GN _, GN _⟩
section
variable {es : List Ce} {i : Nat} {s : o7} {x : Ce} (hs : lE es i s) (hx : (es.map Ce.ch)[i]? = some x.ch)
include hs hx
theorem T2 (hk : x.k = aa.aS) (hm : x ∈ es) (ho : x.d.length ≤ x.c) : lE es (i + 1) { s with pp := x.p, cp := x.c, P := x.d, hp := true } := by
 obtain ⟨h1, h2, h3, h4, h5, h6, h7, h8, h9⟩ := hs
 have hk : x.ch.k = aa.aS := hk
 refine ⟨?_, ?_, ?_, ?_, ?_, ho, h7, tW hm, h9⟩
 ·rw [aa.kf hx, if_pos hk]; rfl
 ·rw [aa.kf hx, if_neg (by rw [hk]; exact aa.Jl)]; exact h2
 ·rw [aa.tH hx, if_neg (by rw [hk]; exact aa.Rz)]; exact h3
 ·rw [aa.k8 hx, hk]; simp
 ·rw [aa.k8 hx, hk, ← h5, beq_false_of_ne aa.Jl, Bool.or_false]
theorem Tb (hk : x.k = aa.aY) (hm : x ∈ es) (ho : x.d.length ≤ x.c) : lE es (i + 1) { s with pt := x.p, ct := x.c, T := x.d, ht := true } := by
 obtain ⟨h1, h2, h3, h4, h5, h6, h7, h8, h9⟩ := hs
 have hk : x.ch.k = aa.aY := hk
 refine ⟨?_, ?_, ?_, ?_, ?_, h6, ho, h8, tW hm⟩
 ·rw [aa.kf hx, if_neg (by rw [hk]; exact aa.Jl.symm)]; exact h1
 ·rw [aa.kf hx, if_pos hk]; rfl
 ·rw [aa.tH hx, if_neg (by rw [hk]; exact aa.Sc)]; exact h3
 ·rw [aa.k8 hx, hk, ← h4, beq_false_of_ne aa.Jl.symm, Bool.or_false]
 ·rw [aa.k8 hx, hk]; simp
theorem IM (hk : x.k = aa.ba) (p : Option Addr) (c : Nat) : lE es (i + 1) { s with pd := p, cd := c, D := s.D ++ x.d } := by
 obtain ⟨h1, h2, h3, h4, h5, h6, h7, h8, h9⟩ := hs
 have hk : x.ch.k = aa.ba := hk
 refine ⟨?_, ?_, ?_, ?_, ?_, h6, h7, h8, h9⟩
 ·rw [aa.kf hx, if_neg (by rw [hk]; exact aa.Rz.symm)]; exact h1
 ·rw [aa.kf hx, if_neg (by rw [hk]; exact aa.Sc.symm)]; exact h2
 ·rw [aa.tH hx, if_pos hk, ← h3]; rfl
 ·rw [aa.k8 hx, hk, ← h4, beq_false_of_ne aa.Rz.symm, Bool.or_false]
 ·rw [aa.k8 hx, hk, ← h5, beq_false_of_ne aa.Sc.symm, Bool.or_false]
theorem Uw (k1 : x.k ≠ aa.aS) (k2 : x.k ≠ aa.aY) (k3 : x.k ≠ aa.ba) : lE es (i + 1) s := by
 obtain ⟨h1, h2, h3, h4, h5, h6, h7, h8, h9⟩ := hs
 have k1 : x.ch.k ≠ aa.aS := k1
 have k2 : x.ch.k ≠ aa.aY := k2
 have k3 : x.ch.k ≠ aa.ba := k3
 refine ⟨?_, ?_, ?_, ?_, ?_, h6, h7, h8, h9⟩
 ·rw [aa.kf hx, if_neg k1]; exact h1
 ·rw [aa.kf hx, if_neg k2]; exact h2
 ·rw [aa.tH hx, if_neg k3]; exact h3
 ·rw [aa.k8 hx, ← h4]; simp [k1]
 ·rw [aa.k8 hx, ← h5]; simp [k2]
end
set_option maxHeartbeats 1000000 in
theorem X3 (p : Option Addr) (c : Nat) (es : List Ce) (R : ad) (hR : ∀ w0 h, R w0 h → aF aR p es.length es w0 h) (hel : es.length ≤ 262144) (hok : Ii es) (kk : List Int) (hk : ag.an kk) : az Tryz.prog 45 [.slice p es.length c, .string (strOfNums kk)] [R] (aG fun v G => ∃ q cq, v = .tuple #[.slice q (aa.bD (es.map Ce.ch) kk).length cq, .bool (aa.dZ (es.map Ce.ch) kk)] ∧ (∀ w0 h, DK es w0 h → aF U5 q (aa.bD (es.map Ce.ch) kk).length (aa.bD (es.map Ce.ch) kk) w0 h) ∧ G = [R]) := by
 refine au [(0, _), (1, _)] Tryz.func45 rfl Tryz.ntmps45 rfl rfl ?_
 intro w0 F
 refine rT TT 13 rfl ?_
 refine cB (fun (i : Nat) => [(0, .slice p es.length c), (1, .string (strOfNums kk)), (6, .int .i64 (i : Int))]) (fun (i : Nat) => R :: F) (fun (i : Nat) => i ≤ es.length ∧ ∀ j : Nat, j < i → (aR.g es (j : Int)).k ≠ kk) (fun (i : Nat) => es.length - i) (i1 (0) ?_ (gK ln) (sub (aq .nil) ak)) ?_
 ·exact ⟨Nat.zero_le _, fun j hj => by omega⟩
 intro i
 rintro ⟨hi, hall⟩
 refine rL TT 9 rfl ?_
 refine aC rfl (fun h10 => ?_) (fun h10 => ?_)
 ·refine (Q4) ?_
  rcases (Classical.em ((aR.g es (i : Int)).k = kk)) with hke | hke
  ·refine (Qa) ?_
   have hcx := pO (es := es) (i := i) (by omega)
   have hxo := ml (i := i) (fun x => ag.an x.k ∧ x.k.length < 500000000) hok (by omega)
   have hxk : ag.an (aR.g es (i : Int)).k := hxo.1
   have hxm := ml (i := i) (fun x => x ∈ es) (fun x hx => hx) (by omega)
   refine (Q5) ?_
   refine oV (xI V.om (by exact bM hR aB))<|oV (bd V.sO rfl)<|(Wq)<|(Q7) ?_
   refine oV (ji (aa.bu hxk) (aa.bu hk) rfl rfl (decide_eq_true hke).symm)<|(Qd) ?_
   refine oV (xI V.om (by exact bM hR aB))<|oV (bd V.wu rfl)<|oV (iD (c := (aR)) 1 V.jV rfl (by exact bM hR aB) (by omega) (by omega) rfl rfl)<|(Qg) ?_
   obtain ⟨e1, e2⟩ := aa.zk hcx hke (zL (by omega) hall)
   rw [e1, e2]
   exact af (ez rfl rfl) ⟨(aR.g es (i : Int)).p, (aR.g es (i : Int)).c, rfl, tW hxm, rfl⟩ (sub (aq .nil) ak)
  ·refine (Qa) ?_
   have hcx := pO (es := es) (i := i) (by omega)
   have hxo := ml (i := i) (fun x => ag.an x.k ∧ x.k.length < 500000000) hok (by omega)
   have hxk : ag.an (aR.g es (i : Int)).k := hxo.1
   have hxm := ml (i := i) (fun x => x ∈ es) (fun x hx => hx) (by omega)
   refine (Q5) ?_
   refine oV (xI V.om (by exact bM hR aB))<|oV (bd V.sO rfl)<|(Wq)<|(Q7) ?_
   refine oV (ji (aa.bu hxk) (aa.bu hk) rfl rfl (decide_eq_false hke).symm)<|gV TT 11 rfl (by omega) ?_
   refine j1 (i + 1) ?_ (gK ln) (sub (aq .nil) ak)
   exact ⟨⟨by omega, fun j hj => (Nat.lt_succ_iff_lt_or_eq.1 hj).elim (hall j) (fun e => e ▸ hke)⟩, by omega⟩
 ·refine rC TT 12 rfl ?_
  obtain ⟨e1, e2⟩ := aa.xY (k := kk) (L := (es.map Ce.ch)) (by rw [List.length_map]; exact fun j hj => zL hi hall j (by omega))
  rw [e1, e2]
  exact af (ez rfl rfl) ⟨none, 0, rfl, GN _, rfl⟩ (sub (aq .nil) ak)
set_option maxHeartbeats 4000000 in
theorem Hi (p : Option Addr) (c : Nat) (es : List Ce) (R : ad) (hR : ∀ w0 h, R w0 h → aF CK p es.length es w0 h) (hel : es.length ≤ 262144) (hok : Ii es) (hco : ∀ y ∈ es, zU y) (hsum : aa.jg (es.map Ce.ch) < 500000000) : az Tryz.prog 39 [.slice p es.length c] [R, DK es] (aG fun v G => ∃ s : o7, lE es es.length s ∧ v = .tuple #[.agg #[.int .i64 0, .int .i64 0, .int .i64 0, .int .i64 0, .bool false, .slice s.pp s.P.length s.cp, .slice s.pt s.T.length s.ct, .slice s.pd s.D.length s.cd, .slice none 0 0], .bool s.hp, .bool s.ht] ∧ G = [Row U5 s.pd s.D.length s.cd s.D, R, DK es]) := by
 refine au [(0, _)] Tryz.func39 rfl Tryz.ntmps39 rfl rfl ?_
 intro w0 F
 refine (QD) ?_
 refine cS V.H6 rfl ?_
 intro b2
 refine (Qq)<|(ru) ?_
 refine gp (fun (i : Nat) (s : o7) => [(2, .pointer (some ⟨b2, 0, none⟩)), (3, .bool s.hp), (4, .bool s.ht), (7, .slice p es.length c), (8, .int .i64 (es.length : Int)), (9, .int .i64 (i : Int))]) (fun (i : Nat) (s : o7) => ai b2 90 [.int .i64 0, .int .i64 0, .int .i64 0, .int .i64 0, .bool false, .slice s.pp s.P.length s.cp, .slice s.pt s.T.length s.ct, .slice s.pd s.D.length s.cd, .slice none 0 0] :: Row U5 s.pd s.D.length s.cd s.D :: R :: DK es :: F) (fun (i : Nat) (s : o7) => i ≤ es.length ∧ lE es i s) (fun (i : Nat) (s : o7) => es.length - i) (i2 (0) (⟨none, 0, [], none, 0, [], none, 0, [], false, false⟩) ?_ (jt (bB ln)) (sub (.cons aw (fp .nil)) ak)) ?_
 ·exact ⟨Nat.zero_le _, T8 es⟩
 intro i s
 rintro ⟨hi, hs⟩
 refine (Qm) ?_
 refine aC rfl (fun h10 => ?_) (fun h10 => ?_)
 ·refine (Qe) ?_
  have hcx : (es.map Ce.ch)[i]? = some (CK.g es (i : Int)).ch := pO (es := es) (i := i) (by omega)
  have hxo := ml (i := i) (fun x => ag.an x.k ∧ x.k.length < 500000000) hok (by omega)
  have hxk : ag.an (CK.g es (i : Int)).k := hxo.1
  have hxm : (CK.g es (i : Int)) ∈ es := ml (i := i) (fun x => x ∈ es) (fun x hx => hx) (by omega)
  have hxc : (CK.g es (i : Int)).d.length ≤ (CK.g es (i : Int)).c := hco _ hxm
  refine (Qo) ?_
  refine oV (xI V.sB (by exact bM hR dW))<|oV (kT (c := (CK)) V.o0 rfl (by exact bM hR dW) (by omega) (by omega) rfl)<|(yo) ?_
  intro b6
  refine (rG)<|(Q6) ?_
  rcases ((by by_cases h0 : (CK.g es (i : Int)).k = aa.aS; exact .inl h0; by_cases h1 : (CK.g es (i : Int)).k = aa.aY; exact .inr (.inl ⟨h0, h1⟩); by_cases h2 : (CK.g es (i : Int)).k = aa.ba; exact .inr (.inr (.inl ⟨h0, h1, h2⟩)); exact .inr (.inr (.inr ⟨h0, h1, h2⟩)) : (CK.g es (i : Int)).k = aa.aS ∨ ((CK.g es (i : Int)).k ≠ aa.aS ∧ (CK.g es (i : Int)).k = aa.aY) ∨ ((CK.g es (i : Int)).k ≠ aa.aS ∧ (CK.g es (i : Int)).k ≠ aa.aY ∧ (CK.g es (i : Int)).k = aa.ba) ∨ ((CK.g es (i : Int)).k ≠ aa.aS ∧ (CK.g es (i : Int)).k ≠ aa.aY ∧ (CK.g es (i : Int)).k ≠ aa.ba))) with a0 | ⟨a0, a1⟩ | ⟨a0, a1, a2⟩ | ⟨a0, a1, a2⟩
  ·refine (Q5)<|(ry) ?_
   refine oV (ji (aa.bu hxk) (aa.bu aa.qP) rfl (show ao _ _ = some (.string (strOfNums aa.aS)) by unfold aa.aS; rfl) (decide_eq_true a0).symm)<|(Q1)<|(vE) ?_
   refine oV (bd V.Un rfl)<|(V1)<|(rA) ?_
   (exact j2 (i + 1) { s with pp := (CK.g es (i : Int)).p, cp := (CK.g es (i : Int)).c, P := (CK.g es (i : Int)).d, hp := true } ⟨⟨by omega, T2 hs hcx a0 hxm hxc⟩, by omega⟩ (jt (bB ln)) (sub (.cons aw (.cons aw (.cons aw (.cons aw .nil)))) bp))
  ·refine (Q5)<|(ry)<|(PX)<|(Q1) ?_
   refine oV (ji (aa.bu hxk) (aa.bu aa.qV) rfl (show ao _ _ = some (.string (strOfNums aa.aY)) by unfold aa.aY; rfl) (decide_eq_true a1).symm)<|(Q1)<|(vE) ?_
   refine oV (bd V.tc rfl)<|(V1)<|(rA) ?_
   (exact j2 (i + 1) { s with pt := (CK.g es (i : Int)).p, ct := (CK.g es (i : Int)).c, T := (CK.g es (i : Int)).d, ht := true } ⟨⟨by omega, Tb hs hcx a1 hxm hxc⟩, by omega⟩ (jt (bB ln)) (sub (.cons aw (.cons aw (.cons aw (.cons aw .nil)))) bp))
  ·refine (Q5)<|(ry)<|(PX)<|(Q1)<|(UE)<|(Q1) ?_
   refine oV (ji (aa.bu hxk) (aa.bu aa.qW) rfl (show ao _ _ = some (.string (strOfNums aa.ba)) by unfold aa.ba; rfl) (decide_eq_true a2).symm)<|(Q8) ?_
   have hd1 := aa.ns ((es.map Ce.ch).take (i + 1))
   have hd2 := aa.yF (es.map Ce.ch) (i + 1)
   rw [← (IM hs hcx a2 none 0).2.2.1] at hd1
   have hd3 : (s.D ++ (CK.g es (i : Int)).d).length = s.D.length + (CK.g es (i : Int)).d.length := List.length_append
   have hd4 : s.D.length + (CK.g es (i : Int)).d.length < 500000000 := by rw [← hd3]; exact Nat.lt_of_le_of_lt hd1 (by omega)
   refine (Q9)<|(vD)<|(pD)<|(vE) ?_
   refine eh (c := (U5)) V.bN V.z5 rfl rfl rfl rfl bg (Rt (f := RX) jR hxm) (by omega) rfl ?_
   intro p31 c31
   refine oV (bd V.S5 rfl)<|(US)<|(QQ) ?_
   (rw [← List.length_append]; exact j2 (i + 1) { s with pd := p31, cd := c31, D := s.D ++ (CK.g es (i : Int)).d } ⟨⟨by omega, IM hs hcx a2 _ _⟩, by omega⟩ (jt (bB ln)) (sub (.cons bg (aq (.cons aw (.cons aw .nil)))) bp))
  ·refine (Q5)<|(ry)<|(PX)<|(Q1)<|(UE)<|(Q1) ?_
   refine oV (ji (aa.bu hxk) (aa.bu aa.qW) rfl (show ao _ _ = some (.string (strOfNums aa.ba)) by unfold aa.ba; rfl) (decide_eq_false a2).symm)<|(x8) ?_
   (exact j2 (i + 1) s ⟨⟨by omega, Uw hs hcx a0 a1 a2⟩, by omega⟩ (jt (bB ln)) (sub (.cons aw (.cons aw (.cons aw (.cons aw .nil)))) bp))
 ·refine (Qc) ?_
  obtain rfl : i = es.length := by omega
  refine (Qo) ?_
  refine oV (dv V.R4 rfl aB (vs := [_, _, _, _, _, _, _, _, _]) rfl rfl)<|(Q6)<|(Jp)<|(Q3) ?_
  exact af (nZ V.R4 rfl aB rfl rfl rfl) ⟨s, hs, rfl, rfl⟩ (sub (.cons aw (.cons aw (.cons aw .nil))) bp)
set_option maxHeartbeats 2000000 in
theorem CH (h : aa.Hd) (hd : aa.iA h.dep) (bf : Nat) (pp : Option Addr) (pl : List Int) (cp : Nat) (pt : Option Addr) (tr : List Int) (ct : Nat) (pd : Option Addr) (nd cd : Nat) (pk : Option Addr) (nk ck : Nat) (hl : pl.length < 500000000) (t : Bool) (ht : t = decide (aa.iy h pl false)) : az Tryz.prog 40 [.pointer (some ⟨bf, 0, none⟩), .bool false] [ai bf 90 [.int .i64 h.w, .int .i64 h.h, .int .i64 h.dep, .int .i64 h.ar, .bool h.aZ, .slice pp pl.length cp, .slice pt tr.length ct, .slice pd nd cd, .slice pk nk ck]] (aG fun v G => v = .bool t ∧ G = [ai bf 90 [.int .i64 h.w, .int .i64 h.h, .int .i64 h.dep, .int .i64 h.ar, .bool h.aZ, .slice pp pl.length cp, .slice pt tr.length ct, .slice pd nd cd, .slice pk nk ck]]) := by
 refine au [(0, _), (1, _)] Tryz.func40 rfl Tryz.ntmps40 rfl rfl ?_
 intro w0 F
 obtain ⟨P, hP⟩ : ∃ P : Int, P = 2 ^ h.dep.toNat := ⟨_, rfl⟩
 have hpb : 2 ≤ P ∧ P ≤ 65536 := hP ▸ aa.lO hd
 have hdi := aa.iY hd
 refine rT TT 10 rfl<|(vE) ?_
 refine rO TT 20 rfl<|(Qf)<|(Qd) ?_
 obtain rfl : t = decide (h.ar ≠ 3) := ht.trans (decide_eq_decide.2 (aa.Ml h pl))
 exact af (av rfl) ⟨rfl, rfl⟩ (sub (aq .nil) ak)
set_option maxHeartbeats 2000000 in
theorem Dk (h : aa.Hd) (hd : aa.iA h.dep) (bf : Nat) (pp : Option Addr) (pl : List Int) (cp : Nat) (pt : Option Addr) (tr : List Int) (ct : Nat) (pd : Option Addr) (nd cd : Nat) (pk : Option Addr) (nk ck : Nat) (hl : pl.length < 500000000) (t : Bool) (ht : t = decide (aa.iy h pl true)) : az Tryz.prog 40 [.pointer (some ⟨bf, 0, none⟩), .bool true] [ai bf 90 [.int .i64 h.w, .int .i64 h.h, .int .i64 h.dep, .int .i64 h.ar, .bool h.aZ, .slice pp pl.length cp, .slice pt tr.length ct, .slice pd nd cd, .slice pk nk ck]] (aG fun v G => v = .bool t ∧ G = [ai bf 90 [.int .i64 h.w, .int .i64 h.h, .int .i64 h.dep, .int .i64 h.ar, .bool h.aZ, .slice pp pl.length cp, .slice pt tr.length ct, .slice pd nd cd, .slice pk nk ck]]) := by
 refine au [(0, _), (1, _)] Tryz.func40 rfl Tryz.ntmps40 rfl rfl ?_
 intro w0 F
 obtain ⟨P, hP⟩ : ∃ P : Int, P = 2 ^ h.dep.toNat := ⟨_, rfl⟩
 have hpb : 2 ≤ P ∧ P ≤ 65536 := hP ▸ aa.lO hd
 have hdi := aa.iY hd
 refine rT TT 10 rfl<|(vE)<|(Q1) ?_
 rcases (aa.O0 (plte := pl) hP) with ⟨a1, a⟩ | ⟨a1, a2, a⟩ | ⟨a1, a2, a3, a4, a⟩ | ⟨a1, a2, a3, a4, a⟩ | ⟨a1, a2, a3, a⟩
 ·refine rC TT 14 rfl<|(Qf)<|(SM) ?_
  refine rO TT 20 rfl ?_
  obtain rfl : t = false := ht.trans (decide_eq_false a)
  exact af (av rfl) ⟨rfl, rfl⟩ (sub (aq .nil) ak)
 ·refine rC TT 14 rfl<|(Qf)<|(pn)<|(QZ)<|(QP)<|(JN)<|(Qq) ?_
  obtain rfl : t = false := ht.trans (decide_eq_false a)
  exact af (av rfl) ⟨rfl, rfl⟩ (sub (aq .nil) ak)
 ·refine rC TT 14 rfl<|(Qf)<|(pn)<|(QZ)<|(QP)<|(yD)<|(Qp)<|(Qf) ?_
  refine oV (cQ (dE rfl rfl) a3)<|(Ql)<|(o8)<|(QC)<|(QP)<|(CO)<|(Q0) ?_
  refine oV (cQ (dz rfl rfl) a4)<|(Qq) ?_
  obtain rfl : t = false := ht.trans (decide_eq_false a)
  exact af (av rfl) ⟨rfl, rfl⟩ (sub (aq .nil) ak)
 ·refine rC TT 14 rfl<|(Qf)<|(pn)<|(QZ)<|(QP)<|(yD)<|(Qp)<|(Qf) ?_
  refine oV (cQ (dE rfl rfl) a3)<|(Ql)<|(o8)<|(QC)<|(QP)<|(CO)<|(Q0) ?_
  refine oV (bV (dz rfl rfl) a4)<|(Qk) ?_
  rcases (aa.PF pl.length) with c1 | ⟨c1, c2⟩ | ⟨c1, c2⟩
  ·refine (Q5)<|(AV)<|(QB)<|(Qq) ?_
   (obtain rfl : t = false := ht.trans (decide_eq_false (fun q => by have := a.1 q; omega)); exact af (G := [ai bf 90 [.int .i64 h.w, .int .i64 h.h, .int .i64 h.dep, .int .i64 h.ar, .bool h.aZ, .slice pp pl.length cp, .slice pt tr.length ct, .slice pd nd cd, .slice pk nk ck]]) (av rfl) ⟨rfl, rfl⟩ (sub (aq .nil) ak))
  ·refine (Q5) ?_
   refine (AV) ?_
   refine (Qz) ?_
   refine (Q6) ?_
   refine (Q0) ?_
   refine (Qr) ?_
   refine (Qg) ?_
   (obtain rfl : t = false := ht.trans (decide_eq_false (fun q => by have := a.1 q; omega)); exact af (G := [ai bf 90 [.int .i64 h.w, .int .i64 h.h, .int .i64 h.dep, .int .i64 h.ar, .bool h.aZ, .slice pp pl.length cp, .slice pt tr.length ct, .slice pd nd cd, .slice pk nk ck]]) (av rfl) ⟨rfl, rfl⟩ (sub (aq .nil) ak))
  ·refine (Q5) ?_
   refine (AV) ?_
   refine (Qz) ?_
   refine (Q6) ?_
   refine (Q0) ?_
   refine (Qu) ?_
   refine (Qi) ?_
   refine (Q0) ?_
   refine (o8) ?_
   refine (Q1) ?_
   (obtain rfl : t = decide ((pl.length : Int) / 3 ≤ 256) := ht.trans (decide_eq_decide.2 (a.trans (by omega))); exact af (G := [ai bf 90 [.int .i64 h.w, .int .i64 h.h, .int .i64 h.dep, .int .i64 h.ar, .bool h.aZ, .slice pp pl.length cp, .slice pt tr.length ct, .slice pd nd cd, .slice pk nk ck]]) (av rfl) ⟨rfl, rfl⟩ (sub (aq .nil) ak))
 ·refine rC TT 14 rfl<|(Qf)<|(pn)<|(QZ)<|(QP)<|(yD)<|(Qp)<|(Qf) ?_
  refine oV (bV (dE rfl rfl) a3)<|rO TT 18 rfl ?_
  rcases (aa.PF pl.length) with c1 | ⟨c1, c2⟩ | ⟨c1, c2⟩
  ·refine (Q5)<|(AV)<|(QB)<|(Qq) ?_
   (obtain rfl : t = false := ht.trans (decide_eq_false (fun q => by have := a.1 q; omega)); exact af (G := [ai bf 90 [.int .i64 h.w, .int .i64 h.h, .int .i64 h.dep, .int .i64 h.ar, .bool h.aZ, .slice pp pl.length cp, .slice pt tr.length ct, .slice pd nd cd, .slice pk nk ck]]) (av rfl) ⟨rfl, rfl⟩ (sub (aq .nil) ak))
  ·refine (Q5) ?_
   refine (AV) ?_
   refine (Qz) ?_
   refine (Q6) ?_
   refine (Q0) ?_
   refine (Qr) ?_
   refine (Qg) ?_
   (obtain rfl : t = false := ht.trans (decide_eq_false (fun q => by have := a.1 q; omega)); exact af (G := [ai bf 90 [.int .i64 h.w, .int .i64 h.h, .int .i64 h.dep, .int .i64 h.ar, .bool h.aZ, .slice pp pl.length cp, .slice pt tr.length ct, .slice pd nd cd, .slice pk nk ck]]) (av rfl) ⟨rfl, rfl⟩ (sub (aq .nil) ak))
  ·refine (Q5) ?_
   refine (AV) ?_
   refine (Qz) ?_
   refine (Q6) ?_
   refine (Q0) ?_
   refine (Qu) ?_
   refine (Qi) ?_
   refine (Q0) ?_
   refine (o8) ?_
   refine (Q1) ?_
   (obtain rfl : t = decide ((pl.length : Int) / 3 ≤ 256) := ht.trans (decide_eq_decide.2 (a.trans (by omega))); exact af (G := [ai bf 90 [.int .i64 h.w, .int .i64 h.h, .int .i64 h.dep, .int .i64 h.ar, .bool h.aZ, .slice pp pl.length cp, .slice pt tr.length ct, .slice pd nd cd, .slice pk nk ck]]) (av rfl) ⟨rfl, rfl⟩ (sub (aq .nil) ak))
set_option maxHeartbeats 1000000 in
theorem BI (h : aa.Hd) (hd : aa.iA h.dep) (bf : Nat) (pp : Option Addr) (pl : List Int) (cp : Nat) (pt : Option Addr) (tr : List Int) (ct : Nat) (pd : Option Addr) (nd cd : Nat) (hpl : pl.length < 500000000) (htr : tr = []) (htl : tr.length < 500000000) (hB : ag.an tr) (t : Bool) (ht : t = true) : az Tryz.prog 41 [.pointer (some ⟨bf, 0, none⟩), .bool false] [ai bf 90 [.int .i64 h.w, .int .i64 h.h, .int .i64 h.dep, .int .i64 h.ar, .bool h.aZ, .slice pp pl.length cp, .slice pt tr.length ct, .slice pd nd cd, .slice none 0 0]] (aG fun v G => ∃ pk nk ck K, (t = true → K = aa.aQ h tr) ∧ K.length = nk ∧ v = .bool t ∧ G = [ai bf 90 [.int .i64 h.w, .int .i64 h.h, .int .i64 h.dep, .int .i64 h.ar, .bool h.aZ, .slice pp pl.length cp, .slice pt tr.length ct, .slice pd nd cd, .slice pk nk ck], Row (aD 3 .i64) pk nk ck K]) := by
 refine au [(0, _), (1, _)] Tryz.func41 rfl Tryz.ntmps41 rfl rfl ?_
 intro w0 F
 refine rT TT 20 rfl ?_
 subst ht
 exact af (av rfl) ⟨none, 0, 0, [], (fun _ => by rw [htr, aa.Lj]), rfl, rfl, rfl⟩ ((cX (A := Row (aD 3 .i64) none 0 0 []) (fun w0 => Row.nil _ _ _)).trans (sub (.cons aw (aq .nil)) ak))
set_option maxHeartbeats 4000000 in
theorem Bv (h : aa.Hd) (hd : aa.iA h.dep) (bf : Nat) (pp : Option Addr) (pl : List Int) (cp : Nat) (pt : Option Addr) (tr : List Int) (ct : Nat) (pd : Option Addr) (nd cd : Nat) (hpl : pl.length < 500000000) (htl : tr.length < 500000000) (hB : ag.an tr) (R : ad) (hR : ∀ w0 h, R w0 h → aF U5 pt tr.length tr w0 h) (t : Bool) (ht : t = decide (aa.iM h pl tr true)) : az Tryz.prog 41 [.pointer (some ⟨bf, 0, none⟩), .bool true] [ai bf 90 [.int .i64 h.w, .int .i64 h.h, .int .i64 h.dep, .int .i64 h.ar, .bool h.aZ, .slice pp pl.length cp, .slice pt tr.length ct, .slice pd nd cd, .slice none 0 0], R] (aG fun v G => ∃ pk nk ck K, (t = true → K = aa.aQ h tr) ∧ K.length = nk ∧ v = .bool t ∧ G = [ai bf 90 [.int .i64 h.w, .int .i64 h.h, .int .i64 h.dep, .int .i64 h.ar, .bool h.aZ, .slice pp pl.length cp, .slice pt tr.length ct, .slice pd nd cd, .slice pk nk ck], Row (aD 3 .i64) pk nk ck K, R]) := by
 refine au [(0, _), (1, _)] Tryz.func41 rfl Tryz.ntmps41 rfl rfl ?_
 intro w0 F
 obtain ⟨P, hP⟩ : ∃ P : Int, P = 2 ^ h.dep.toNat := ⟨_, rfl⟩
 have hpb : 2 ≤ P ∧ P ≤ 65536 := hP ▸ aa.lO hd
 have hdi := aa.iY hd
 refine rT TT 15 rfl ?_
 refine jF (fun (u : Unit) => [(0, .pointer (some ⟨bf, 0, none⟩))]) (fun (u : Unit) => ai bf 90 [.int .i64 h.w, .int .i64 h.h, .int .i64 h.dep, .int .i64 h.ar, .bool h.aZ, .slice pp pl.length cp, .slice pt tr.length ct, .slice pd nd cd, .slice none 0 0] :: R :: F) (fun (u : Unit) => (h.ar = 0 ∨ h.ar = 2) ∧ tr.length = 2 * (aa.parts h.ar).toNat ∧ 1 ≤ aa.parts h.ar ∧ aa.parts h.ar ≤ 3 ∧ aa.iM h pl tr true) ?_ ?_
 ·rcases (aa.O5 h pl tr) with ⟨a1, a⟩ | ⟨a1, a2, a3, a⟩ | ⟨a1, a2, a3, a⟩ | ⟨a1, a2, a4, a3, a⟩ | ⟨a1, a2, a4, a3, a⟩ | ⟨a1, a2, a4, a⟩
  ·refine (Qm)<|(Qf)<|(Q3)<|(SM)<|(Q3)<|(tl) ?_
   refine rR TT 3 rfl<|(Iv) ?_
   refine rR TT 4 rfl<|(Iv) ?_
   refine oR (jZ (ty' := 0) Tryz.underlying22 rfl)<|oR (jY rfl rfl (by omega) (rZ (by omega) (by omega) (by omega)))<|rR TT 2 rfl<|Rg.dh<|rN TT 4 rfl ?_
   obtain rfl : t = decide ((tr.length : Int) ≤ (pl.length : Int) / 3) := ht.trans (decide_eq_decide.2 (a.trans (by omega)))
   exact af (av rfl) ⟨none, 0, 0, [], (fun _ => by rw [aa.TB (by omega)]), rfl, rfl, rfl⟩ ((cX (A := Row (aD 3 .i64) none 0 0 []) (fun w0 => Row.nil _ _ _)).trans (sub (.cons aw (aO .nil)) ak))
  ·refine (Qm)<|(Qf)<|(Q3)<|(pn)<|(Qd)<|(JN)<|(Qk) ?_
   have hpp : aa.parts h.ar = 1 := by rw [a2]; unfold aa.parts; rfl
   refine wN [pz 0 [] [0], pz 1 [0] [], pz 3 [1] [], pz 7 [2] [], pz 15 [3] [], pz 0 [] [0], pz 32 [5] [], pz 96 [6] [], pz 224 [7] [], pz 480 [8] [], pz 992 [9] [], pz 2016 [10] [], pz 4095 [4, 11] []] [⟨fun y => ai bf 90 [.int .i64 h.w, .int .i64 h.h, .int .i64 h.dep, .int .i64 h.ar, .bool h.aZ, .slice pp pl.length cp, .slice pt tr.length ct, .slice pd nd cd, .slice none 0 0], none, none, [3, 9]⟩, ⟨fun y => R, none, none, []⟩] F V.mixed ?_
   refine nM ?_
   refine nN ?_
   refine nG V.tc ?_
   refine nR (fun y FF hA => aA V.jV rfl aB rfl) ?_
   refine nV (fun y hA L => jZ (ty' := 0) Tryz.underlying22 rfl) ?_
   refine nM ?_
   refine nN ?_
   refine nG V.gG ?_
   refine nG V.qM ?_
   refine nR (fun y FF hA => aA V.s3 rfl aB rfl) ?_
   refine nE (fun y FF hA => aV (Post := []) (iC h.ar) V.pZ rfl .nil (fun v G h => by rcases h with ⟨rfl, rfl⟩; exact ⟨rfl, .refl _⟩)) ?_
   refine nV (fun y hA L => gB rfl rfl wI) ?_
   refine nV (fun y hA L => cQ (cL rfl rfl) (by omega)) ?_
   refine cG ?_
   intro y hA
   clear hA
   refine bj ?_
   refine bE _ (.cons (d := 0) rfl (.cons (d := 42) rfl (.nil _))) ?_
   refine bo (M := ai bf 90 [.int .i64 h.w, .int .i64 h.h, .int .i64 h.dep, .int .i64 h.ar, .bool h.aZ, .slice pp pl.length cp, .slice pt tr.length ct, .slice pd nd cd, .slice none 0 0] :: R :: F) (fun _ _ h => h) ?_
   refine rC TT 9 rfl ?_
   obtain rfl : t = false := ht.trans (decide_eq_false a)
   exact af (av rfl) ⟨none, 0, 0, [], (fun q => by cases q), rfl, rfl, rfl⟩ ((cX (A := Row (aD 3 .i64) none 0 0 []) (fun w0 => Row.nil _ _ _)).trans (sub (.cons aw (aO .nil)) ak))
  ·refine (Qm)<|(Qf)<|(Q3)<|(pn)<|(Qd)<|(JN)<|(Qk) ?_
   have hpp : aa.parts h.ar = 1 := by rw [a2]; unfold aa.parts; rfl
   have hc2 : h.ar = 0 ∨ h.ar = 2 := .inl a2
   refine wN [pz 0 [] [0], pz 1 [0] [], pz 3 [1] [], pz 7 [2] [], pz 15 [3] [], pz 0 [] [0], pz 32 [5] [], pz 96 [6] [], pz 224 [7] [], pz 480 [8] [], pz 992 [9] [], pz 2016 [10] [], pz 4095 [4, 11] []] [⟨fun y => ai bf 90 [.int .i64 h.w, .int .i64 h.h, .int .i64 h.dep, .int .i64 h.ar, .bool h.aZ, .slice pp pl.length cp, .slice pt tr.length ct, .slice pd nd cd, .slice none 0 0], none, none, [3, 9]⟩, ⟨fun y => R, none, none, []⟩] F V.mixed ?_
   refine nM ?_
   refine nN ?_
   refine nG V.tc ?_
   refine nR (fun y FF hA => aA V.jV rfl aB rfl) ?_
   refine nV (fun y hA L => jZ (ty' := 0) Tryz.underlying22 rfl) ?_
   refine nM ?_
   refine nN ?_
   refine nG V.gG ?_
   refine nG V.qM ?_
   refine nR (fun y FF hA => aA V.s3 rfl aB rfl) ?_
   refine nE (fun y FF hA => aV (Post := []) (iC h.ar) V.pZ rfl .nil (fun v G h => by rcases h with ⟨rfl, rfl⟩; exact ⟨rfl, .refl _⟩)) ?_
   refine nV (fun y hA L => gB rfl rfl wI) ?_
   refine nV (fun y hA L => bV (cL rfl rfl) (by omega)) ?_
   refine cG ?_
   intro y hA
   clear hA
   refine bj ?_
   refine bE _ (.cons (d := 0) rfl (.cons (d := 42) rfl (.nil _))) ?_
   refine bo (M := ai bf 90 [.int .i64 h.w, .int .i64 h.h, .int .i64 h.dep, .int .i64 h.ar, .bool h.aZ, .slice pp pl.length cp, .slice pt tr.length ct, .slice pd nd cd, .slice none 0 0] :: R :: F) (fun _ _ h => h) ?_
   refine rC TT 3 rfl ?_
   refine j1 (()) ?_ (jt ln) (sub (aO .nil) ak)
   exact ⟨hc2, by omega, by omega, by omega, a⟩
  ·refine (Qm)<|(Qf)<|(Q3)<|(pn)<|(Qd)<|(yD)<|(Q3) ?_
   refine oV (cQ (dE rfl rfl) a4)<|(Q3) ?_
   have hpp : aa.parts h.ar = 3 := by rw [a4]; unfold aa.parts; rfl
   refine wN [pz 0 [] [0], pz 1 [0] [], pz 3 [1] [], pz 7 [2] [], pz 15 [3] [], pz 0 [] [0], pz 32 [5] [], pz 96 [6] [], pz 224 [7] [], pz 480 [8] [], pz 992 [9] [], pz 2016 [10] [], pz 4095 [4, 11] []] [⟨fun y => ai bf 90 [.int .i64 h.w, .int .i64 h.h, .int .i64 h.dep, .int .i64 h.ar, .bool h.aZ, .slice pp pl.length cp, .slice pt tr.length ct, .slice pd nd cd, .slice none 0 0], none, none, [3, 9]⟩, ⟨fun y => R, none, none, []⟩] F V.mixed ?_
   refine nM ?_
   refine nN ?_
   refine nG V.tc ?_
   refine nR (fun y FF hA => aA V.jV rfl aB rfl) ?_
   refine nV (fun y hA L => jZ (ty' := 0) Tryz.underlying22 rfl) ?_
   refine nM ?_
   refine nN ?_
   refine nG V.gG ?_
   refine nG V.qM ?_
   refine nR (fun y FF hA => aA V.s3 rfl aB rfl) ?_
   refine nE (fun y FF hA => aV (Post := []) (iC h.ar) V.pZ rfl .nil (fun v G h => by rcases h with ⟨rfl, rfl⟩; exact ⟨rfl, .refl _⟩)) ?_
   refine nV (fun y hA L => gB rfl rfl wI) ?_
   refine nV (fun y hA L => cQ (cL rfl rfl) (by omega)) ?_
   refine cG ?_
   intro y hA
   clear hA
   refine bj ?_
   refine bE _ (.cons (d := 0) rfl (.cons (d := 42) rfl (.nil _))) ?_
   refine bo (M := ai bf 90 [.int .i64 h.w, .int .i64 h.h, .int .i64 h.dep, .int .i64 h.ar, .bool h.aZ, .slice pp pl.length cp, .slice pt tr.length ct, .slice pd nd cd, .slice none 0 0] :: R :: F) (fun _ _ h => h) ?_
   refine rC TT 9 rfl ?_
   obtain rfl : t = false := ht.trans (decide_eq_false a)
   exact af (av rfl) ⟨none, 0, 0, [], (fun q => by cases q), rfl, rfl, rfl⟩ ((cX (A := Row (aD 3 .i64) none 0 0 []) (fun w0 => Row.nil _ _ _)).trans (sub (.cons aw (aO .nil)) ak))
  ·refine (Qm)<|(Qf)<|(Q3)<|(pn)<|(Qd)<|(yD)<|(Q3) ?_
   refine oV (cQ (dE rfl rfl) a4)<|(Q3) ?_
   have hpp : aa.parts h.ar = 3 := by rw [a4]; unfold aa.parts; rfl
   have hc2 : h.ar = 0 ∨ h.ar = 2 := .inr a4
   refine wN [pz 0 [] [0], pz 1 [0] [], pz 3 [1] [], pz 7 [2] [], pz 15 [3] [], pz 0 [] [0], pz 32 [5] [], pz 96 [6] [], pz 224 [7] [], pz 480 [8] [], pz 992 [9] [], pz 2016 [10] [], pz 4095 [4, 11] []] [⟨fun y => ai bf 90 [.int .i64 h.w, .int .i64 h.h, .int .i64 h.dep, .int .i64 h.ar, .bool h.aZ, .slice pp pl.length cp, .slice pt tr.length ct, .slice pd nd cd, .slice none 0 0], none, none, [3, 9]⟩, ⟨fun y => R, none, none, []⟩] F V.mixed ?_
   refine nM ?_
   refine nN ?_
   refine nG V.tc ?_
   refine nR (fun y FF hA => aA V.jV rfl aB rfl) ?_
   refine nV (fun y hA L => jZ (ty' := 0) Tryz.underlying22 rfl) ?_
   refine nM ?_
   refine nN ?_
   refine nG V.gG ?_
   refine nG V.qM ?_
   refine nR (fun y FF hA => aA V.s3 rfl aB rfl) ?_
   refine nE (fun y FF hA => aV (Post := []) (iC h.ar) V.pZ rfl .nil (fun v G h => by rcases h with ⟨rfl, rfl⟩; exact ⟨rfl, .refl _⟩)) ?_
   refine nV (fun y hA L => gB rfl rfl wI) ?_
   refine nV (fun y hA L => bV (cL rfl rfl) (by omega)) ?_
   refine cG ?_
   intro y hA
   clear hA
   refine bj ?_
   refine bE _ (.cons (d := 0) rfl (.cons (d := 42) rfl (.nil _))) ?_
   refine bo (M := ai bf 90 [.int .i64 h.w, .int .i64 h.h, .int .i64 h.dep, .int .i64 h.ar, .bool h.aZ, .slice pp pl.length cp, .slice pt tr.length ct, .slice pd nd cd, .slice none 0 0] :: R :: F) (fun _ _ h => h) ?_
   refine rC TT 3 rfl ?_
   refine j1 (()) ?_ (jt ln) (sub (aO .nil) ak)
   exact ⟨hc2, by omega, by omega, by omega, a⟩
  ·refine (Qm)<|(Qf)<|(Q3)<|(pn)<|(Qd)<|(yD)<|(Q3)<|(I0)<|(QG) ?_
   obtain rfl : t = false := ht.trans (decide_eq_false a)
   exact af (av rfl) ⟨none, 0, 0, [], (fun q => by cases q), rfl, rfl, rfl⟩ ((cX (A := Row (aD 3 .i64) none 0 0 []) (fun w0 => Row.nil _ _ _)).trans (sub (.cons aw (aO .nil)) ak))
 ·intro u
  rintro ⟨hc2, htp, hp1, hp3, hC⟩
  refine (Qe)<|(vE) ?_
  refine aj (ya pt ct tr R hR htl) V.OX  rfl (.cons aw .nil) rfl ?_
  rintro _ _ ⟨bx, rfl, rfl⟩
  refine (Qg)<|(QN) ?_
  refine aj (iC h.ar) V.pZ  rfl .nil rfl ?_
  rintro _ _ ⟨rfl, rfl⟩
  refine (Q8) ?_
  refine iT (Row (aD 3 .i64) none 0 0 []) (Row.nil _ _ _) ?_
  rw [show ([] : List Int) = (aa.aQ h tr).take 0 from rfl]
  refine fN (fun (k : Nat) (pk : Option Addr) (ck : Nat) => [(0, .pointer (some ⟨bf, 0, none⟩)), (5, .pointer (some ⟨bx, 0, none⟩)), (53, .int .i64 (aa.parts h.ar)), (54, .int .i64 (k : Int))]) (fun (k : Nat) (pk : Option Addr) (ck : Nat) => ai bf 90 [.int .i64 h.w, .int .i64 h.h, .int .i64 h.dep, .int .i64 h.ar, .bool h.aZ, .slice pp pl.length cp, .slice pt tr.length ct, .slice pd nd cd, .slice pk k ck] :: Row (aD 3 .i64) pk k ck ((aa.aQ h tr).take k) :: HW bx tr (16 * k) [] 0 :: R :: F) (fun (k : Nat) (pk : Option Addr) (ck : Nat) => (k : Int) ≤ aa.parts h.ar) (fun (k : Nat) (pk : Option Addr) (ck : Nat) => (aa.parts h.ar).toNat - k) (i3 (0) (none) (0) ?_ (eG ln) (sub (.cons c9 (fp .nil)) ak)) ?_
  ·omega
  intro k pk ck
  rintro hk
  refine (Qm) ?_
  refine aC rfl (fun h55 => ?_) (fun h55 => ?_)
  ·refine (Q4) ?_
   have hck := aa.UD (trns := tr) hc2 (by omega) (i := k) (by omega)
   refine jD [pz 0 [] [0], pz 0 [] [0], pz 2 [1] [], pz 6 [2] [], pz 14 [3] [], pz 0 [] [5], pz 32 [5] [], pz 0 [] [0], pz 128 [7] [], pz 384 [8] [], pz 896 [9] [], pz 1920 [10] [], pz 3968 [11] [], pz 8064 [12] [], pz 16352 [6, 13] [], pz 32736 [14] [], pz 65534 [4, 15] [], pz 131071 [0] [], pz 262143 [17] [], pz 524287 [18, 16] []] [⟨fun y => ai bf 90 [.int .i64 h.w, .int .i64 h.h, .int .i64 h.dep, .int .i64 h.ar, .bool h.aZ, .slice pp pl.length cp, .slice pt tr.length ct, .slice pd nd cd, .slice pk k ck], none, some 19, [4, 11]⟩, ⟨fun y => Row (aD 3 .i64) pk k ck ((aa.aQ h tr).take k), none, some 16, []⟩, ⟨fun y => HW bx tr (16 * k) [] 0, none, some 6, []⟩, ⟨fun y => R, none, none, []⟩, ⟨fun y => HW bx tr (16 * k + 16) [] 0, some 6, none, []⟩, ⟨fun y => Row (I3) (some ⟨(gZ (ed (y 15))), 0, none⟩) 1 1 [((aa.bK tr (16 * k) 16) % P)], some 15, none, [16]⟩, ⟨fun y => Row (I3) (ed (y 16)) (k + 1) (fx (y 16)) (((aa.aQ h tr).take k) ++ [((aa.bK tr (16 * k) 16) % P)]), some 16, none, []⟩, ⟨fun y => ai bf 90 [.int .i64 h.w, .int .i64 h.h, .int .i64 h.dep, .int .i64 h.ar, .bool h.aZ, .slice pp pl.length cp, .slice pt tr.length ct, .slice pd nd cd, .slice (ed (y 16)) (k + 1) (fx (y 16))], some 19, none, []⟩] F V.mixed (by kernel_rfl) rfl (fun _ => .refl _) (aP _ (aP _ (aP _ (aP _ (cT _ rfl (by intro y y2 h; rfl) (cT _ rfl (by intro y y2 h; simp only [h 15 (.inl rfl)]) (cT _ rfl (by intro y y2 h; simp only [h 16 (.inl rfl)]) (cT _ rfl (by intro y y2 h; simp only [h 16 (.inr (by decide))]) ft)))))))) ?_
   iterate 2 refine nM ?_
   refine nN ?_
   refine nG V.H3 ?_
   refine (Oa) ?_
   refine nM ?_
   refine nE (fun y FF hA => aV (Post := [HW bx tr (16 * k + 16) [] 0]) (jC bx tr (16 * k) [] 0 16 htl hB (by decide) (by omega)) V.sL rfl (aq .nil) (fun v G h => by rcases h with ⟨rfl, rfl⟩; exact ⟨rfl, .refl _⟩)) ?_
   refine nM ?_
   refine nN ?_
   refine (Yr) ?_
   refine nG V.wx ?_
   refine (Qv) ?_
   refine nV (fun y hA L => iQ (r := P) rfl rfl (by omega) ((aa.AE hd).trans hP.symm)) ?_
   refine (ve) ?_
   refine nV (fun y hA L => kt (r := ((aa.bK tr (16 * k) 16) % P)) rfl rfl (aa.Mb hP hd (aa.Cy tr (16 * k)))) ?_
   refine fc (fun y v => .slice (some ⟨gZ (ed v), 0, none⟩) 1 1) (fun y v => True) _ _ (fun y v => [Row (I3) (some ⟨(gZ (ed v)), 0, none⟩) 1 1 [((aa.bK tr (16 * k) 16) % P)]]) _ (fun y => rfl) (fun y => rfl) (fun y => rfl) (fun y => rfl) (fun y FF hA => zA (sk (I3) ([((aa.bK tr (16 * k) 16) % P)]) V.cV V.z3 rfl rfl rfl rfl rfl)) (by intros; rfl) (by intros; rfl) (by intros; rfl) (by intro y y2 h; simp only [h 15 (.inl rfl)]) (by intro y y2 h; rfl) ?_
   refine fc (fun y v => .slice (ed v) (k + 1) (fx v)) (fun y v => True) _ _ (fun y v => [Row (I3) (ed v) (k + 1) (fx v) (((aa.aQ h tr).take k) ++ [((aa.bK tr (16 * k) 16) % P)])]) _ (fun y => rfl) (fun y => rfl) (fun y => rfl) (fun y => rfl) (fun y FF hA => qF (mB (c := (I3)) V.cV V.z3 rfl rfl rfl rfl cW (own dm) (by omega)) (.refl _)) (by intros; rfl) (by intros; rfl) (by intros; rfl) (by intro y y2 h; simp only [h 15 (.inr (by decide)), h 16 (.inl rfl)]) (by intro y y2 h; rfl) ?_
   refine nN ?_
   refine nG V.H3 ?_
   refine nE (fun y FF hA => dD (dK V.nz rfl rfl rfl (by exact fI) (by exact Nat.le_of_ble_eq_true rfl) rfl) ⟨rfl, .refl _⟩) ?_
   refine (Qb) ?_
   intro y hA
   clear hA
   show kr _ _ _ _ (R :: HW bx tr (16 * k + 16) [] 0 :: Row (I3) (some ⟨(gZ (ed (y 15))), 0, none⟩) 1 1 [((aa.bK tr (16 * k) 16) % P)] :: Row (I3) (ed (y 16)) (k + 1) (fx (y 16)) (((aa.aQ h tr).take k) ++ [((aa.bK tr (16 * k) 16) % P)]) :: ai bf 90 [.int .i64 h.w, .int .i64 h.h, .int .i64 h.dep, .int .i64 h.ar, .bool h.aZ, .slice pp pl.length cp, .slice pt tr.length ct, .slice pd nd cd, .slice (ed (y 16)) (k + 1) (fx (y 16))] :: F)
   generalize (gZ (ed (y 15))) = b71
   generalize (ed (y 16)) = p72
   generalize (fx (y 16)) = c72
   refine jh<|bj<|(Qo)<|(Ap)<|(Q7) ?_
   refine dh ?_
   rw [show ((aa.aQ h tr).take k) ++ [((aa.bK tr (16 * k) 16) % P)] = (aa.aQ h tr).take (k + 1) from by rw [hck.1, aa.zh hB, ← hP]]
   exact j3 (k + 1) _ _ ⟨by omega, by omega⟩ (eG ln) (sub (.cons ig (.cons c9 (.cons aw (aq .nil)))) bp)
  ·refine (o5) ?_
   obtain rfl : t = true := ht.trans (decide_eq_true hC)
   have hcl := aa.L7 (trns := tr) hc2 (by omega)
   obtain rfl : k = (aa.parts h.ar).toNat := by omega
   rw [← hcl, List.take_length]
   exact af (av rfl) ⟨pk, _, ck, (aa.aQ h tr), fun _ => rfl, rfl, rfl, rfl⟩ (sub (aO (.cons aw .nil)) bp)
end Go.Proofs.YtmaiakpjgomnpaaGreat
namespace Go.Proofs.YtmaiakpjgomnpaaGreat
open Go.Sl
theorem V.RG : ay Tryz.prog 171 = true := by kernel_rfl
theorem V.R3 : ay Tryz.prog 173 = true := by kernel_rfl
theorem V.Cn : ay Tryz.prog 184 = true := by kernel_rfl
end Go.Proofs.YtmaiakpjgomnpaaGreat
namespace Go.Proofs.YtmaiakpjgomnpaaGreat
open Go.Sl 
attribute [local irreducible] ag.an aa.aT aa.up aa.bK aa.gh aa.Fg aa.deep aa.parts HW aa.aQ aa.gg aa.eu aa.pQ aa.ky aa.fq
set_option maxHeartbeats 1000000 in
theorem AZ (p1 : Option Addr) (n1 c1 : Nat) (L1 : List Int) (hn1 : L1.length = n1) (R1 : ad) (hR1 : ∀ w0 h, R1 w0 h → aF (aD 3 .i64) p1 n1 L1 w0 h) (p2 : Option Addr) (n2 c2 : Nat) (L2 : List Int) (hn2 : L2.length = n2) (R2 : ad) (hR2 : ∀ w0 h, R2 w0 h → aF (aD 3 .i64) p2 n2 L2 w0 h) (hs1 : n1 ≤ 100000000) (t : Bool) (ht : t = decide (L1 = L2)) : az Tryz.prog 173 [.slice p1 n1 c1, .slice p2 n2 c2] [R1, R2] (aG fun v G => v = .bool t ∧ G = [R1, R2]) := by
  refine au [(0, _), (1, _)] Tryz.func173 rfl Tryz.ntmps173 rfl rfl ?_
  intro w0 F
  refine (QO) ?_
  rcases (Classical.em (n1 = n2)) with hne0 | hne0
  ·
    refine (Qs)<|(vX)<|(QK) ?_
    refine cB (fun (i : Nat) => [(0, .slice p1 n1 c1), (1, .slice p2 n2 c2), (12, .int .i64 (n1 : Int)), (13, .int .i64 (i : Int))]) (fun (i : Nat) => R1 :: R2 :: F) (fun (i : Nat) => i ≤ n1 ∧ ∀ j, j < i → L1.getD j 0 = L2.getD j 0) (fun (i : Nat) => n1 - i) (i1 (0) ?_ (eG ln) (sub (aO .nil) ak)) ?_
    ·
      exact ⟨Nat.zero_le _, fun j hj => by omega⟩
    intro i
    rintro ⟨hi, hall⟩
    refine (Qm) ?_
    refine aC rfl (fun h14 => ?_) (fun h14 => ?_)
    ·
      refine (QA) ?_
      rcases (Classical.em (((aD 3 .i64).g L1 (i : Int)) ≠ ((aD 3 .i64).g L2 (i : Int)))) with hne | hne
      ·
        refine (Qa)<|(tl) ?_
        refine rR TT 2 rfl<|(Vs) ?_
        refine rR TT 2 rfl<|(U3) ?_
        refine oR (cQ (cL rfl rfl) hne)<|Rg.dh<|rN TT 13 rfl ?_
        obtain rfl : t = false := ht.trans (decide_eq_false (aa.Ij hne))
        exact af (av rfl) ⟨rfl, rfl⟩ (sub (aO .nil) ak)
      ·
        refine (Qa)<|(tl) ?_
        refine rR TT 2 rfl<|(Vs) ?_
        refine rR TT 2 rfl<|(U3) ?_
        refine oR (bV (cL rfl rfl) hne)<|Rg.dh<|Nt TT 9 rfl (by omega) ?_
        refine j1 (i + 1) ?_ (eG ln) (sub (aO .nil) ak)
        exact ⟨⟨by omega, fun j hj => (Nat.lt_succ_iff_lt_or_eq.1 hj).elim (hall j) (fun e => e ▸ Classical.not_not.1 hne)⟩, by omega⟩
    ·
      refine (o5) ?_
      obtain rfl : t = true := ht.trans (decide_eq_true (aa.Dj (by omega) (fun j hj => hall j (by omega))))
      exact af (av rfl) ⟨rfl, rfl⟩ (sub (aO .nil) ak)
  ·
    refine (Qs)<|(Rh)<|(Qg) ?_
    obtain rfl : t = false := ht.trans (decide_eq_false (fun e => hne0 (by rw [← hn1, ← hn2, e])))
    exact af (av rfl) ⟨rfl, rfl⟩ (sub (aO .nil) ak)
set_option maxHeartbeats 2000000 in
theorem Bx (h : aa.Hd) (bf : Nat) (pp : Option Addr) (pl : List Int) (cp : Nat) (pt : Option Addr) (tr : List Int) (ct : Nat) (pd : Option Addr) (nd cd : Nat) (pk : Option Addr) (nk ck : Nat) (R : ad) (hP : ∀ w0 h, R w0 h → aF U5 pp pl.length pl w0 h) (hT : ∀ w0 h, R w0 h → aF U5 pt tr.length tr w0 h) (hcp : pl.length ≤ cp) (hB : ag.an pl) (hBt : ag.an tr) (hpl : pl.length < 500000000) (htl : tr.length < 500000000) (k : Nat) (hk : pl.length / 3 ≤ k) (hkb : k < 100000000) : az Tryz.prog 171 [.pointer (some ⟨bf, 0, none⟩), .int .i64 (k : Int)] [ai bf 90 [.int .i64 h.w, .int .i64 h.h, .int .i64 h.dep, .int .i64 h.ar, .bool h.aZ, .slice pp pl.length cp, .slice pt tr.length ct, .slice pd nd cd, .slice pk nk ck], R] (aG fun v G => v = .tuple #[.agg #[.int .u16 0, .int .u16 0, .int .u16 0, .int .u16 0], .bool false] ∧ G = [ai bf 90 [.int .i64 h.w, .int .i64 h.h, .int .i64 h.dep, .int .i64 h.ar, .bool h.aZ, .slice pp pl.length cp, .slice pt tr.length ct, .slice pd nd cd, .slice pk nk ck], R]) := by
  refine au [(0, _), (1, _)] Tryz.func171 rfl Tryz.ntmps171 rfl rfl ?_
  intro w0 F
  refine (QD)<|(rq) ?_
  intro b4
  refine (Qg)<|(vD)<|(oX)<|(o8)<|(QM)<|(Q3) ?_
  refine oV (jx V.mV V.yJ rfl (cs := [_, _, _, _]) rfl)<|(Es)<|(Q3) ?_
  exact af (dP V.k9 rfl aB rfl rfl) ⟨rfl, rfl⟩ (sub (.cons aw (.cons aw .nil)) bp)
set_option maxHeartbeats 2000000 in
theorem Cs (h : aa.Hd) (bf : Nat) (pp : Option Addr) (pl : List Int) (cp : Nat) (pt : Option Addr) (tr : List Int) (ct : Nat) (pd : Option Addr) (nd cd : Nat) (pk : Option Addr) (nk ck : Nat) (R : ad) (hP : ∀ w0 h, R w0 h → aF U5 pp pl.length pl w0 h) (hT : ∀ w0 h, R w0 h → aF U5 pt tr.length tr w0 h) (hcp : pl.length ≤ cp) (hB : ag.an pl) (hBt : ag.an tr) (hpl : pl.length < 500000000) (htl : tr.length < 500000000) (k : Nat) (hk : ¬ pl.length / 3 ≤ k) : az Tryz.prog 171 [.pointer (some ⟨bf, 0, none⟩), .int .i64 (k : Int)] [ai bf 90 [.int .i64 h.w, .int .i64 h.h, .int .i64 h.dep, .int .i64 h.ar, .bool h.aZ, .slice pp pl.length cp, .slice pt tr.length ct, .slice pd nd cd, .slice pk nk ck], R] (aG fun v G => v = .tuple #[.agg #[.int .u16 ((pl.drop (3 * k)).getD 0 0 * 257), .int .u16 ((pl.drop (3 * k)).getD 1 0 * 257), .int .u16 ((pl.drop (3 * k)).getD 2 0 * 257), .int .u16 (if k < tr.length then tr.getD k 0 * 257 else 65535)], .bool true] ∧ G = [ai bf 90 [.int .i64 h.w, .int .i64 h.h, .int .i64 h.dep, .int .i64 h.ar, .bool h.aZ, .slice pp pl.length cp, .slice pt tr.length ct, .slice pd nd cd, .slice pk nk ck], R]) := by
  refine au [(0, _), (1, _)] Tryz.func171 rfl Tryz.ntmps171 rfl rfl ?_
  intro w0 F
  have hBd := aa.dT hB (3 * k)
  have hS : ∀ w0 h, R w0 h → aF U5 (dq pp (3 * k) cp 1) (pl.length - 3 * k) (pl.drop (3 * k)) w0 h := fU (c := U5) hP rfl (3 * k) cp (by omega) hcp
  have hPl : (pl.drop (3 * k)).length = pl.length - 3 * k := List.length_drop
  refine (QD)<|(rq) ?_
  intro b4
  refine (Qg)<|(vD)<|(oX)<|(o8)<|(m9)<|(Qg)<|(vD)<|(Q7) ?_
  refine oV (cY (v := .int .i64 ((3 * k : Nat) : Int)) (gB (r := 3 * (k : Int)) rfl rfl wI) (congrArg (Value.int .i64) (by omega)))<|oV (eb (3 * k) pl.length cp V.bN rfl ⟨_, rfl⟩ ⟨rfl, rfl⟩ rfl (by omega) (by omega) (by omega))<|(Qk) ?_
  refine jF (fun (al : Int) => [(4, .pointer (some ⟨b4, 0, none⟩)), (6, .slice (dq pp (3 * k) cp 1) (pl.length - 3 * k) (cp - 3 * k)), (7, .int .u16 al)]) (fun (al : Int) => ai b4 68 [.int .u16 0, .int .u16 0, .int .u16 0, .int .u16 0] :: ai bf 90 [.int .i64 h.w, .int .i64 h.h, .int .i64 h.dep, .int .i64 h.ar, .bool h.aZ, .slice pp pl.length cp, .slice pt tr.length ct, .slice pd nd cd, .slice pk nk ck] :: R :: F) (fun (al : Int) => al = (if k < tr.length then tr.getD k 0 * 257 else 65535)) ?_ ?_
  ·
    rcases (Classical.em (k < tr.length)) with hkt | hkt
    ·
      refine (Qm)<|(vD)<|(oX)<|(mg)<|(Qd)<|(vD)<|(Q7) ?_
      refine oV (xI V.bN (by exact bM hT dW))<|oV (xL V.s5 (by exact bM hT dW))<|aj (sE (U5.g tr (k : Int)) (hBt.get k)) V.Cn  rfl .nil rfl ?_
      rintro _ _ ⟨rfl, rfl⟩
      refine (Q6) ?_
      refine j1 (_) ?_ (gK ln) (sub (fp .nil) ak)
      exact (if_pos hkt).symm
    ·
      refine (Qm)<|(vD)<|(oX)<|(QE)<|(Q8) ?_
      refine j1 (_) ?_ (gK ln) (sub (fp .nil) ak)
      exact (if_neg hkt).symm
  ·
    intro al
    rintro hal
    refine rC TT 1 rfl ?_
    refine wN [pz 0 [] [6], pz 1 [0] [], pz 3 [1] [], pz 7 [2] [], pz 0 [] [6], pz 16 [4] [], pz 48 [5] [], pz 127 [6] [], pz 0 [] [6], pz 256 [8] [], pz 768 [9] [], pz 2047 [10] [], pz 0 [] [7], pz 8191 [3, 7, 11, 12] [], pz 16383 [13] [4], pz 32767 [] []] [⟨fun y => ai b4 68 [.int .u16 0, .int .u16 0, .int .u16 0, .int .u16 0], none, some 14, []⟩, ⟨fun y => ai bf 90 [.int .i64 h.w, .int .i64 h.h, .int .i64 h.dep, .int .i64 h.ar, .bool h.aZ, .slice pp pl.length cp, .slice pt tr.length ct, .slice pd nd cd, .slice pk nk ck], none, none, []⟩, ⟨fun y => R, none, none, [1, 2, 5, 6, 9, 10]⟩, ⟨fun y => ai b4 68 [.int .u16 (U5.g (pl.drop (3 * k)) 0 * 257), .int .u16 (U5.g (pl.drop (3 * k)) 1 * 257), .int .u16 (U5.g (pl.drop (3 * k)) 2 * 257), .int .u16 al], some 14, none, []⟩] F V.mixed ?_
    refine nM ?_
    refine nR (fun y FF hA => xI V.bN (by exact bM hS aB)) ?_
    refine nR (fun y FF hA => xL V.s5 (by exact bM hS aB)) ?_
    refine nE (fun y FF hA => aV (Post := []) (sE (U5.g (pl.drop (3 * k)) 0) (hBd.get 0)) V.Cn rfl .nil (fun v G h => by rcases h with ⟨rfl, rfl⟩; exact ⟨rfl, .refl _⟩)) ?_
    refine nM ?_
    refine nR (fun y FF hA => xI V.bN (by exact bM hS aB)) ?_
    refine nR (fun y FF hA => xL V.s5 (by exact bM hS aB)) ?_
    refine nE (fun y FF hA => aV (Post := []) (sE (U5.g (pl.drop (3 * k)) 1) (hBd.get 1)) V.Cn rfl .nil (fun v G h => by rcases h with ⟨rfl, rfl⟩; exact ⟨rfl, .refl _⟩)) ?_
    refine nM ?_
    refine nR (fun y FF hA => xI V.bN (by exact bM hS aB)) ?_
    refine nR (fun y FF hA => xL V.s5 (by exact bM hS aB)) ?_
    refine nE (fun y FF hA => aV (Post := []) (sE (U5.g (pl.drop (3 * k)) 2) (hBd.get 2)) V.Cn rfl .nil (fun v G h => by rcases h with ⟨rfl, rfl⟩; exact ⟨rfl, .refl _⟩)) ?_
    refine nM ?_
    refine nV (fun y hA L => jx V.mV V.yJ rfl (cs := [.int .u16 (U5.g (pl.drop (3 * k)) 0 * 257), .int .u16 (U5.g (pl.drop (3 * k)) 1 * 257), .int .u16 (U5.g (pl.drop (3 * k)) 2 * 257), .int .u16 al]) (by kernel_rfl)) ?_
    refine nE (fun y FF hA => dD (bb V.k9 rfl rfl (us := [_, _, _, _]) rfl rfl (by exact fI) (by exact Nat.le_of_ble_eq_true rfl) rfl) ⟨rfl, .refl _⟩) ?_
    refine nA ?_
    refine cG ?_
    intro y hA
    clear hA
    refine bj<|(Vw) ?_
    refine bo (M := ai bf 90 [.int .i64 h.w, .int .i64 h.h, .int .i64 h.dep, .int .i64 h.ar, .bool h.aZ, .slice pp pl.length cp, .slice pt tr.length ct, .slice pd nd cd, .slice pk nk ck] :: R :: ai b4 68 [.int .u16 (U5.g (pl.drop (3 * k)) 0 * 257), .int .u16 (U5.g (pl.drop (3 * k)) 1 * 257), .int .u16 (U5.g (pl.drop (3 * k)) 2 * 257), .int .u16 al] :: F) (fun _ _ h => h)<|(Qa) ?_
    exact af (dP V.k9 rfl dW rfl rfl) ⟨by rw [← hal]; rfl, rfl⟩ (sub (aO .nil) bp)
set_option maxHeartbeats 4000000 in
theorem FB (h : aa.Hd) (bf : Nat) (pp : Option Addr) (pl : List Int) (cp : Nat) (pt : Option Addr) (tr : List Int) (ct : Nat) (pd : Option Addr) (nd cd : Nat) (pk : Option Addr) (ck : Nat) (R : ad) (hP : ∀ w0 h, R w0 h → aF U5 pp pl.length pl w0 h) (hT : ∀ w0 h, R w0 h → aF U5 pt tr.length tr w0 h) (hcp : pl.length ≤ cp) (hB : ag.an pl) (hBt : ag.an tr) (hpl : pl.length < 500000000) (htl : tr.length < 500000000) (pv : Option Addr) (cv : Nat) (v : List Int) (Rk Rv : ad) (hRk : ∀ w0 h_, Rk w0 h_ → aF (aD 3 .i64) pk (aa.aQ h tr).length (aa.aQ h tr) w0 h_) (hRv : ∀ w0 h_, Rv w0 h_ → aF (aD 3 .i64) pv v.length v w0 h_) (hf : aa.fq ⟨h, pl, tr⟩) (hvl : v.length = (aa.parts h.ar).toNat) (hvx : ∀ x ∈ v, 0 ≤ x ∧ x < 2 ^ h.dep.toNat) (h3 : h.ar = 3) (k : Nat) (hk0 : v.getD 0 0 = (k : Int)) (hkb : k < 100000000) (hk : pl.length / 3 ≤ k) : az Tryz.prog 151 [.pointer (some ⟨bf, 0, none⟩), .slice pv v.length cv] [ai bf 90 [.int .i64 h.w, .int .i64 h.h, .int .i64 h.dep, .int .i64 h.ar, .bool h.aZ, .slice pp pl.length cp, .slice pt tr.length ct, .slice pd nd cd, .slice pk (aa.aQ h tr).length ck], Rk, Rv, R] (aG fun e G => e = .tuple #[.agg #[.int .u16 0, .int .u16 0, .int .u16 0, .int .u16 0], .bool false] ∧ G = [ai bf 90 [.int .i64 h.w, .int .i64 h.h, .int .i64 h.dep, .int .i64 h.ar, .bool h.aZ, .slice pp pl.length cp, .slice pt tr.length ct, .slice pd nd cd, .slice pk (aa.aQ h tr).length ck], Rk, Rv, R]) := by
  refine (PI) ?_
  intro w0 F
  have hde : aa.deep h.ar h.dep := by unfold aa.fq at hf; exact hf.1
  have hpc := aa.gm hde
  have hd := aa.gq hde
  have hUl : (v.map (aa.up h.dep)).length = v.length := List.length_map ..
  have hdi := aa.iY hd
  refine (QD)<|(rq) ?_
  intro b4
  refine (Qg)<|(QW)<|(Qz)<|(Qd)<|(VT) ?_
  rw [show (aD 3 .i64).g v 0 = (k : Int) from hk0]
  refine aj (Bx h bf pp pl cp pt tr ct pd nd cd pk (aa.aQ h tr).length ck R hP hT hcp hB hBt hpl htl k hk (by omega)) V.RG  rfl (.cons aw (.cons c9 .nil)) rfl ?_
  rintro _ _ ⟨rfl, rfl⟩
  refine (Q6)<|(VW)<|(Q3) ?_
  exact af (dP V.k9 rfl dW rfl rfl) ⟨rfl, rfl⟩ (sub (aq (.cons bg (.cons bg (.cons cW .nil)))) bp)
set_option maxHeartbeats 4000000 in
theorem DZ (h : aa.Hd) (bf : Nat) (pp : Option Addr) (pl : List Int) (cp : Nat) (pt : Option Addr) (tr : List Int) (ct : Nat) (pd : Option Addr) (nd cd : Nat) (pk : Option Addr) (ck : Nat) (R : ad) (hP : ∀ w0 h, R w0 h → aF U5 pp pl.length pl w0 h) (hT : ∀ w0 h, R w0 h → aF U5 pt tr.length tr w0 h) (hcp : pl.length ≤ cp) (hB : ag.an pl) (hBt : ag.an tr) (hpl : pl.length < 500000000) (htl : tr.length < 500000000) (pv : Option Addr) (cv : Nat) (v : List Int) (Rk Rv : ad) (hRk : ∀ w0 h_, Rk w0 h_ → aF (aD 3 .i64) pk (aa.aQ h tr).length (aa.aQ h tr) w0 h_) (hRv : ∀ w0 h_, Rv w0 h_ → aF (aD 3 .i64) pv v.length v w0 h_) (hf : aa.fq ⟨h, pl, tr⟩) (hvl : v.length = (aa.parts h.ar).toNat) (hvx : ∀ x ∈ v, 0 ≤ x ∧ x < 2 ^ h.dep.toNat) (h3 : h.ar = 3) (k : Nat) (hk0 : v.getD 0 0 = (k : Int)) (hkb : k < 100000000) (hk : ¬ pl.length / 3 ≤ k) : az Tryz.prog 151 [.pointer (some ⟨bf, 0, none⟩), .slice pv v.length cv] [ai bf 90 [.int .i64 h.w, .int .i64 h.h, .int .i64 h.dep, .int .i64 h.ar, .bool h.aZ, .slice pp pl.length cp, .slice pt tr.length ct, .slice pd nd cd, .slice pk (aa.aQ h tr).length ck], Rk, Rv, R] (aG fun e G => e = .tuple #[.agg #[.int .u16 ((pl.drop (3 * k)).getD 0 0 * 257), .int .u16 ((pl.drop (3 * k)).getD 1 0 * 257), .int .u16 ((pl.drop (3 * k)).getD 2 0 * 257), .int .u16 (if k < tr.length then tr.getD k 0 * 257 else 65535)], .bool true] ∧ G = [ai bf 90 [.int .i64 h.w, .int .i64 h.h, .int .i64 h.dep, .int .i64 h.ar, .bool h.aZ, .slice pp pl.length cp, .slice pt tr.length ct, .slice pd nd cd, .slice pk (aa.aQ h tr).length ck], Rk, Rv, R]) := by
  refine (PI) ?_
  intro w0 F
  have hde : aa.deep h.ar h.dep := by unfold aa.fq at hf; exact hf.1
  have hpc := aa.gm hde
  have hd := aa.gq hde
  have hUl : (v.map (aa.up h.dep)).length = v.length := List.length_map ..
  have hdi := aa.iY hd
  refine (QD)<|(rq) ?_
  intro b4
  refine (Qg)<|(QW)<|(Qz)<|(Qd)<|(VT) ?_
  rw [show (aD 3 .i64).g v 0 = (k : Int) from hk0]
  refine aj (Cs h bf pp pl cp pt tr ct pd nd cd pk (aa.aQ h tr).length ck R hP hT hcp hB hBt hpl htl k hk) V.RG  rfl (.cons aw (.cons c9 .nil)) rfl ?_
  rintro _ _ ⟨rfl, rfl⟩
  refine (Q6)<|(VW)<|(Q3) ?_
  exact af (dP V.k9 rfl dW rfl rfl) ⟨rfl, rfl⟩ (sub (aq (.cons bg (.cons bg (.cons cW .nil)))) bp)
set_option maxHeartbeats 4000000 in
theorem Dm (h : aa.Hd) (bf : Nat) (pp : Option Addr) (pl : List Int) (cp : Nat) (pt : Option Addr) (tr : List Int) (ct : Nat) (pd : Option Addr) (nd cd : Nat) (pk : Option Addr) (ck : Nat) (R : ad) (hP : ∀ w0 h, R w0 h → aF U5 pp pl.length pl w0 h) (hT : ∀ w0 h, R w0 h → aF U5 pt tr.length tr w0 h) (hcp : pl.length ≤ cp) (hB : ag.an pl) (hBt : ag.an tr) (hpl : pl.length < 500000000) (htl : tr.length < 500000000) (pv : Option Addr) (cv : Nat) (v : List Int) (Rk Rv : ad) (hRk : ∀ w0 h_, Rk w0 h_ → aF (aD 3 .i64) pk (aa.aQ h tr).length (aa.aQ h tr) w0 h_) (hRv : ∀ w0 h_, Rv w0 h_ → aF (aD 3 .i64) pv v.length v w0 h_) (hf : aa.fq ⟨h, pl, tr⟩) (hvl : v.length = (aa.parts h.ar).toNat) (hvx : ∀ x ∈ v, 0 ≤ x ∧ x < 2 ^ h.dep.toNat) (h3 : ¬ h.ar = 3) (c0 c1 c2 c3 : Int) (hpx : aa.gg ⟨h, pl, tr⟩ v = some [c0, c1, c2, c3]) : az Tryz.prog 151 [.pointer (some ⟨bf, 0, none⟩), .slice pv v.length cv] [ai bf 90 [.int .i64 h.w, .int .i64 h.h, .int .i64 h.dep, .int .i64 h.ar, .bool h.aZ, .slice pp pl.length cp, .slice pt tr.length ct, .slice pd nd cd, .slice pk (aa.aQ h tr).length ck], Rk, Rv, R] (aG fun e G => e = .tuple #[.agg #[.int .u16 c0, .int .u16 c1, .int .u16 c2, .int .u16 c3], .bool true] ∧ G = [ai bf 90 [.int .i64 h.w, .int .i64 h.h, .int .i64 h.dep, .int .i64 h.ar, .bool h.aZ, .slice pp pl.length cp, .slice pt tr.length ct, .slice pd nd cd, .slice pk (aa.aQ h tr).length ck], Rk, Rv, R]) := by
  refine (PI) ?_
  intro w0 F
  have hde : aa.deep h.ar h.dep := by unfold aa.fq at hf; exact hf.1
  have hpc := aa.gm hde
  have hd := aa.gq hde
  have hUl : (v.map (aa.up h.dep)).length = v.length := List.length_map ..
  have hdi := aa.iY hd
  refine (QD)<|(rq) ?_
  intro b4
  refine (Qg)<|(QW)<|(QB) ?_
  refine rO TT 19 rfl<|iT (Row (aD 62 .u16) none 0 0 []) (Row.nil _ _ _) ?_
  rw [show ([] : List Int) = (v.map (aa.up h.dep)).take 0 from rfl]
  refine fN (fun (i : Nat) (ps : Option Addr) (cs : Nat) => [(0, .pointer (some ⟨bf, 0, none⟩)), (1, .slice pv v.length cv), (4, .pointer (some ⟨b4, 0, none⟩)), (6, .slice ps i cs), (25, .slice pv v.length cv), (26, .int .i64 (v.length : Int)), (27, .int .i64 (i : Int))]) (fun (i : Nat) (ps : Option Addr) (cs : Nat) => Row (aD 62 .u16) ps i cs ((v.map (aa.up h.dep)).take i) :: ai b4 68 [.int .u16 0, .int .u16 0, .int .u16 0, .int .u16 0] :: ai bf 90 [.int .i64 h.w, .int .i64 h.h, .int .i64 h.dep, .int .i64 h.ar, .bool h.aZ, .slice pp pl.length cp, .slice pt tr.length ct, .slice pd nd cd, .slice pk (aa.aQ h tr).length ck] :: Rk :: Rv :: R :: F) (fun (i : Nat) (ps : Option Addr) (cs : Nat) => i ≤ v.length) (fun (i : Nat) (ps : Option Addr) (cs : Nat) => v.length - i) (i3 (0) (none) (0) ?_ (gI (bB ln)) (sub (aq (mj .nil)) ak)) ?_
  ·
    exact Nat.zero_le _
  intro i ps cs
  rintro hi
  refine (Qm) ?_
  refine aC rfl (fun h28 => ?_) (fun h28 => ?_)
  ·
    refine (Qe) ?_
    have hvi : 0 ≤ ((aD 3 .i64).g v (i : Int)) ∧ ((aD 3 .i64).g v (i : Int)) < 2 ^ h.dep.toNat := hvx _ (aa.hG (by omega))
    refine (Qo) ?_
    refine oV (xI V.cV (by exact bM hRv jR))<|oV (xL V.s3 (by exact bM hRv jR))<|(Qg)<|(QN) ?_
    refine aj (R0 h.dep ((aD 3 .i64).g v (i : Int)) hd hvi) V.RK  rfl .nil rfl ?_
    rintro _ _ ⟨rfl, rfl⟩
    refine (Qg) ?_
    refine cH (aD 62 .u16) [(aa.up h.dep ((aD 3 .i64).g v (i : Int)))] V.gk V.DW rfl rfl rfl rfl rfl rfl ?_
    intro b43
    refine eh (c := (aD 62 .u16)) V.gk V.DW rfl rfl rfl rfl aw (own aB) (by omega) rfl ?_
    intro p44 c44
    refine (QQ) ?_
    rw [show (v.map (aa.up h.dep)).take i ++ [aa.up h.dep ((aD 3 .i64).g v (i : Int))] = (v.map (aa.up h.dep)).take (i + 1) from aa.Bz (by omega)]
    exact j3 (i + 1) _ _ ⟨by omega, by omega⟩ (gI (bB ln)) (sub (aq (.cons aw (.cons aw (.cons aw (.cons aw (.cons aw .nil)))))) bp)
  ·
    refine (Qc) ?_
    obtain rfl : i = v.length := by omega
    rw [List.take_of_length_le (by omega)]
    refine (Q4) ?_
    refine jF (fun (al : Int) => [(0, .pointer (some ⟨bf, 0, none⟩)), (1, .slice pv v.length cv), (4, .pointer (some ⟨b4, 0, none⟩)), (6, .slice ps v.length cs), (11, .int .u16 al)]) (fun (al : Int) => Row (aD 62 .u16) ps v.length cs (v.map (aa.up h.dep)) :: ai b4 68 [.int .u16 0, .int .u16 0, .int .u16 0, .int .u16 0] :: ai bf 90 [.int .i64 h.w, .int .i64 h.h, .int .i64 h.dep, .int .i64 h.ar, .bool h.aZ, .slice pp pl.length cp, .slice pt tr.length ct, .slice pd nd cd, .slice pk (aa.aQ h tr).length ck] :: Rk :: Rv :: R :: F) (fun (al : Int) => al = (if h.ar = 4 ∨ h.ar = 6 then (v.map (aa.up h.dep)).getD ((v.map (aa.up h.dep)).length - 1) 0 else 65535)) ?_ ?_
    ·
      rcases ((by omega : h.ar = 4 ∨ (¬ h.ar = 4 ∧ h.ar = 6) ∨ (¬ h.ar = 4 ∧ ¬ h.ar = 6))) with a1 | ⟨a1, a2⟩ | ⟨a1, a2⟩
      ·
        refine (Qm)<|(QN)<|(SM) ?_
        refine gV TT 16 rfl (by omega)<|oV (xI V.gk (own aB))<|oV (xL V.ld (own aB))<|(Q6) ?_
        refine j1 (_) ?_ (bB ln) (sub (aq (mj .nil)) ak)
        (rw [if_pos (by omega), hUl]; exact gE (v.length - 1) (by omega))
      ·
        refine (Qm)<|(QN)<|(pn)<|(QZ)<|(QN)<|(Q0)<|(JN)<|(rA) ?_
        refine oV (xI V.gk (own aB))<|oV (xL V.ld (own aB))<|(Q6) ?_
        refine j1 (_) ?_ (bB ln) (sub (aq (mj .nil)) ak)
        (rw [if_pos (by omega), hUl]; exact gE (v.length - 1) (by omega))
      ·
        refine (Qm)<|(QN)<|(pn)<|(QZ)<|(QN)<|(Q0)<|(yD)<|(Q3) ?_
        refine j1 (_) ?_ (bB ln) (sub (aq (mj .nil)) ak)
        (rw [if_neg (by omega)]; done)
    ·
      intro al
      rintro hal
      refine jF (fun (al2 : Int) => [(0, .pointer (some ⟨bf, 0, none⟩)), (4, .pointer (some ⟨b4, 0, none⟩)), (6, .slice ps v.length cs), (11, .int .u16 al2)]) (fun (al2 : Int) => Row (aD 62 .u16) ps v.length cs (v.map (aa.up h.dep)) :: ai b4 68 [.int .u16 0, .int .u16 0, .int .u16 0, .int .u16 0] :: ai bf 90 [.int .i64 h.w, .int .i64 h.h, .int .i64 h.dep, .int .i64 h.ar, .bool h.aZ, .slice pp pl.length cp, .slice pt tr.length ct, .slice pd nd cd, .slice pk (aa.aQ h tr).length ck] :: Rk :: Rv :: R :: F) (fun (al2 : Int) => al2 = aa.pQ ⟨h, pl, tr⟩ v) ?_ ?_
      ·
        rcases ((by by_cases q : 0 < (aa.aQ h tr).length; by_cases q2 : v = (aa.aQ h tr); exact .inr (.inl ⟨q, q2⟩); exact .inr (.inr ⟨q, q2⟩); exact .inl q : ¬ 0 < (aa.aQ h tr).length ∨ (0 < (aa.aQ h tr).length ∧ v = (aa.aQ h tr)) ∨ (0 < (aa.aQ h tr).length ∧ ¬ v = (aa.aQ h tr)))) with b1 | ⟨b1, b2⟩ | ⟨b1, b2⟩
        ·
          refine rL TT 5 rfl<|(Bc)<|(Iw)<|(Qr)<|(QG) ?_
          refine j1 (_) ?_ (eG ln) (sub (aq (mj .nil)) ak)
          (unfold aa.pQ; rw [if_neg (fun q => b1 q.1)]; exact hal)
        ·
          refine rL TT 5 rfl<|(Bc)<|(Iw)<|(Qu)<|(QZ)<|(Bc)<|(Q0) ?_
          refine aj (AZ pv v.length cv v rfl Rv hRv pk (aa.aQ h tr).length ck (aa.aQ h tr) rfl Rk hRk (by omega) true (decide_eq_true b2).symm) V.R3  rfl (.cons ig (.cons c9 .nil)) rfl ?_
          rintro _ _ ⟨rfl, rfl⟩
          refine (Qd) ?_
          refine j1 (_) ?_ (eG ln) (sub (.cons bg (.cons bg (.cons bg (.cons aw (aO .nil))))) ak)
          (unfold aa.pQ; rw [if_pos ⟨b1, b2⟩]; done)
        ·
          refine rL TT 5 rfl<|(Bc)<|(Iw)<|(Qu)<|(QZ)<|(Bc)<|(Q0) ?_
          refine aj (AZ pv v.length cv v rfl Rv hRv pk (aa.aQ h tr).length ck (aa.aQ h tr) rfl Rk hRk (by omega) false (decide_eq_false b2).symm) V.R3  rfl (.cons ig (.cons c9 .nil)) rfl ?_
          rintro _ _ ⟨rfl, rfl⟩
          refine (Q3) ?_
          refine j1 (_) ?_ (eG ln) (sub (.cons bg (.cons bg (.cons bg (.cons aw (aO .nil))))) ak)
          (unfold aa.pQ; rw [if_neg (fun q => b2 q.2)]; exact hal)
      ·
        intro al2
        rintro hal2
        rcases ((by omega : h.ar = 0 ∨ (¬ h.ar = 0 ∧ h.ar = 4) ∨ (¬ h.ar = 0 ∧ ¬ h.ar = 4))) with a1 | ⟨a1, a2⟩ | ⟨a1, a2⟩
        ·
          refine rC TT 7 rfl ?_
          refine oV (aA V.s3 rfl dW rfl) ?_
          refine oV (cQ (dE rfl rfl) a1) ?_
          refine rO TT 12 rfl ?_
          refine wN [pz 0 [] [6], pz 1 [0] [], pz 3 [1] [], pz 0 [] [6], pz 8 [3] [], pz 24 [4] [], pz 0 [] [6], pz 64 [6] [], pz 192 [7] [], pz 0 [] [11], pz 1023 [2, 5, 8, 9] [], pz 2047 [10] [4], pz 4095 [] []] [⟨fun y => Row (aD 62 .u16) ps v.length cs (v.map (aa.up h.dep)), none, none, [1, 2, 4, 5, 7, 8]⟩, ⟨fun y => ai b4 68 [.int .u16 0, .int .u16 0, .int .u16 0, .int .u16 0], none, some 11, []⟩, ⟨fun y => ai bf 90 [.int .i64 h.w, .int .i64 h.h, .int .i64 h.dep, .int .i64 h.ar, .bool h.aZ, .slice pp pl.length cp, .slice pt tr.length ct, .slice pd nd cd, .slice pk (aa.aQ h tr).length ck], none, none, []⟩, ⟨fun y => Rk, none, none, []⟩, ⟨fun y => Rv, none, none, []⟩, ⟨fun y => R, none, none, []⟩, ⟨fun y => ai b4 68 [.int .u16 ((aD 62 .u16).g (v.map (aa.up h.dep)) 0), .int .u16 ((aD 62 .u16).g (v.map (aa.up h.dep)) 0), .int .u16 ((aD 62 .u16).g (v.map (aa.up h.dep)) 0), .int .u16 al2], some 11, none, []⟩] F V.mixed ?_
          refine nM ?_
          refine nR (fun y FF hA => xI V.gk (own aB)) ?_
          refine nR (fun y FF hA => xL V.ld (own aB)) ?_
          refine nM ?_
          refine nR (fun y FF hA => xI V.gk (own aB)) ?_
          refine nR (fun y FF hA => xL V.ld (own aB)) ?_
          refine nM ?_
          refine nR (fun y FF hA => xI V.gk (own aB)) ?_
          refine nR (fun y FF hA => xL V.ld (own aB)) ?_
          refine nM ?_
          refine nV (fun y hA L => jx V.mV V.yJ rfl (cs := [.int .u16 ((aD 62 .u16).g (v.map (aa.up h.dep)) 0), .int .u16 ((aD 62 .u16).g (v.map (aa.up h.dep)) 0), .int .u16 ((aD 62 .u16).g (v.map (aa.up h.dep)) 0), .int .u16 al2]) (by kernel_rfl)) ?_
          refine nE (fun y FF hA => dD (bb V.k9 rfl rfl (us := [_, _, _, _]) rfl rfl (by exact fI) (by exact Nat.le_of_ble_eq_true rfl) rfl) ⟨rfl, .refl _⟩) ?_
          refine nA ?_
          refine cG ?_
          intro y hA
          clear hA
          refine bj ?_
          refine bE _ (.cons (d := 4) rfl (.cons (d := 5) rfl (.nil _))) ?_
          refine bo (M := Row (aD 62 .u16) ps v.length cs (v.map (aa.up h.dep)) :: ai bf 90 [.int .i64 h.w, .int .i64 h.h, .int .i64 h.dep, .int .i64 h.ar, .bool h.aZ, .slice pp pl.length cp, .slice pt tr.length ct, .slice pd nd cd, .slice pk (aa.aQ h tr).length ck] :: Rk :: Rv :: R :: ai b4 68 [.int .u16 ((aD 62 .u16).g (v.map (aa.up h.dep)) 0), .int .u16 ((aD 62 .u16).g (v.map (aa.up h.dep)) 0), .int .u16 ((aD 62 .u16).g (v.map (aa.up h.dep)) 0), .int .u16 al2] :: F) (fun _ _ h => h) ?_
          refine bo (sub .nil (.skip (.keep (.keep (.keep (.keep (.keep .refl))))))) ?_
          simp only [List.nil_append]
          refine (Q9) ?_
          obtain ⟨e0, e1, e2, e3⟩ := aa.we ((aa.Ae (f := ⟨h, pl, tr⟩) (v := v) (show h.ar = 0 ∨ h.ar = 4 from by omega)).symm.trans hpx)
          exact af (dP V.k9 rfl jR rfl rfl) ⟨by rw [← e0, ← e1, ← e2, ← e3, hal2]; rfl, rfl⟩ (sub (lZ .nil) bp)
        ·
          refine rC TT 7 rfl ?_
          refine oV (aA V.s3 rfl dW rfl) ?_
          refine oV (bV (dE rfl rfl) a1) ?_
          refine rO TT 5 rfl ?_
          refine dg rfl ?_
          refine oV (aA V.s3 rfl dW rfl) ?_
          refine dg rfl ?_
          refine oV (cQ (dE rfl rfl) a2) ?_
          refine rO TT 5 rfl ?_
          refine wN [pz 0 [] [6], pz 1 [0] [], pz 3 [1] [], pz 0 [] [6], pz 8 [3] [], pz 24 [4] [], pz 0 [] [6], pz 64 [6] [], pz 192 [7] [], pz 0 [] [11], pz 1023 [2, 5, 8, 9] [], pz 2047 [10] [4], pz 4095 [] []] [⟨fun y => Row (aD 62 .u16) ps v.length cs (v.map (aa.up h.dep)), none, none, [1, 2, 4, 5, 7, 8]⟩, ⟨fun y => ai b4 68 [.int .u16 0, .int .u16 0, .int .u16 0, .int .u16 0], none, some 11, []⟩, ⟨fun y => ai bf 90 [.int .i64 h.w, .int .i64 h.h, .int .i64 h.dep, .int .i64 h.ar, .bool h.aZ, .slice pp pl.length cp, .slice pt tr.length ct, .slice pd nd cd, .slice pk (aa.aQ h tr).length ck], none, none, []⟩, ⟨fun y => Rk, none, none, []⟩, ⟨fun y => Rv, none, none, []⟩, ⟨fun y => R, none, none, []⟩, ⟨fun y => ai b4 68 [.int .u16 ((aD 62 .u16).g (v.map (aa.up h.dep)) 0), .int .u16 ((aD 62 .u16).g (v.map (aa.up h.dep)) 0), .int .u16 ((aD 62 .u16).g (v.map (aa.up h.dep)) 0), .int .u16 al2], some 11, none, []⟩] F V.mixed ?_
          refine nM ?_
          refine nR (fun y FF hA => xI V.gk (own aB)) ?_
          refine nR (fun y FF hA => xL V.ld (own aB)) ?_
          refine nM ?_
          refine nR (fun y FF hA => xI V.gk (own aB)) ?_
          refine nR (fun y FF hA => xL V.ld (own aB)) ?_
          refine nM ?_
          refine nR (fun y FF hA => xI V.gk (own aB)) ?_
          refine nR (fun y FF hA => xL V.ld (own aB)) ?_
          refine nM ?_
          refine nV (fun y hA L => jx V.mV V.yJ rfl (cs := [.int .u16 ((aD 62 .u16).g (v.map (aa.up h.dep)) 0), .int .u16 ((aD 62 .u16).g (v.map (aa.up h.dep)) 0), .int .u16 ((aD 62 .u16).g (v.map (aa.up h.dep)) 0), .int .u16 al2]) (by kernel_rfl)) ?_
          refine nE (fun y FF hA => dD (bb V.k9 rfl rfl (us := [_, _, _, _]) rfl rfl (by exact fI) (by exact Nat.le_of_ble_eq_true rfl) rfl) ⟨rfl, .refl _⟩) ?_
          refine nA ?_
          refine cG ?_
          intro y hA
          clear hA
          refine bj ?_
          refine bE _ (.cons (d := 4) rfl (.cons (d := 5) rfl (.nil _))) ?_
          refine bo (M := Row (aD 62 .u16) ps v.length cs (v.map (aa.up h.dep)) :: ai bf 90 [.int .i64 h.w, .int .i64 h.h, .int .i64 h.dep, .int .i64 h.ar, .bool h.aZ, .slice pp pl.length cp, .slice pt tr.length ct, .slice pd nd cd, .slice pk (aa.aQ h tr).length ck] :: Rk :: Rv :: R :: ai b4 68 [.int .u16 ((aD 62 .u16).g (v.map (aa.up h.dep)) 0), .int .u16 ((aD 62 .u16).g (v.map (aa.up h.dep)) 0), .int .u16 ((aD 62 .u16).g (v.map (aa.up h.dep)) 0), .int .u16 al2] :: F) (fun _ _ h => h) ?_
          refine bo (sub .nil (.skip (.keep (.keep (.keep (.keep (.keep .refl))))))) ?_
          simp only [List.nil_append]
          refine (Q9) ?_
          obtain ⟨e0, e1, e2, e3⟩ := aa.we ((aa.Ae (f := ⟨h, pl, tr⟩) (v := v) (show h.ar = 0 ∨ h.ar = 4 from by omega)).symm.trans hpx)
          exact af (dP V.k9 rfl jR rfl rfl) ⟨by rw [← e0, ← e1, ← e2, ← e3, hal2]; rfl, rfl⟩ (sub (lZ .nil) bp)
        ·
          refine rC TT 7 rfl ?_
          refine oV (aA V.s3 rfl dW rfl) ?_
          refine oV (bV (dE rfl rfl) a1) ?_
          refine rO TT 5 rfl ?_
          refine dg rfl ?_
          refine oV (aA V.s3 rfl dW rfl) ?_
          refine dg rfl ?_
          refine oV (bV (dE rfl rfl) a2) ?_
          refine rO TT 7 rfl ?_
          refine wN [pz 0 [] [6], pz 1 [0] [], pz 3 [1] [], pz 0 [] [6], pz 8 [3] [], pz 24 [4] [], pz 0 [] [6], pz 64 [6] [], pz 192 [7] [], pz 0 [] [11], pz 1023 [2, 5, 8, 9] [], pz 2047 [10] [4], pz 4095 [] []] [⟨fun y => Row (aD 62 .u16) ps v.length cs (v.map (aa.up h.dep)), none, none, [1, 2, 4, 5, 7, 8]⟩, ⟨fun y => ai b4 68 [.int .u16 0, .int .u16 0, .int .u16 0, .int .u16 0], none, some 11, []⟩, ⟨fun y => ai bf 90 [.int .i64 h.w, .int .i64 h.h, .int .i64 h.dep, .int .i64 h.ar, .bool h.aZ, .slice pp pl.length cp, .slice pt tr.length ct, .slice pd nd cd, .slice pk (aa.aQ h tr).length ck], none, none, []⟩, ⟨fun y => Rk, none, none, []⟩, ⟨fun y => Rv, none, none, []⟩, ⟨fun y => R, none, none, []⟩, ⟨fun y => ai b4 68 [.int .u16 ((aD 62 .u16).g (v.map (aa.up h.dep)) 0), .int .u16 ((aD 62 .u16).g (v.map (aa.up h.dep)) 1), .int .u16 ((aD 62 .u16).g (v.map (aa.up h.dep)) 2), .int .u16 al2], some 11, none, []⟩] F V.mixed ?_
          refine nM ?_
          refine nR (fun y FF hA => xI V.gk (own aB)) ?_
          refine nR (fun y FF hA => xL V.ld (own aB)) ?_
          refine nM ?_
          refine nR (fun y FF hA => xI V.gk (own aB)) ?_
          refine nR (fun y FF hA => xL V.ld (own aB)) ?_
          refine nM ?_
          refine nR (fun y FF hA => xI V.gk (own aB)) ?_
          refine nR (fun y FF hA => xL V.ld (own aB)) ?_
          refine nM ?_
          refine nV (fun y hA L => jx V.mV V.yJ rfl (cs := [.int .u16 ((aD 62 .u16).g (v.map (aa.up h.dep)) 0), .int .u16 ((aD 62 .u16).g (v.map (aa.up h.dep)) 1), .int .u16 ((aD 62 .u16).g (v.map (aa.up h.dep)) 2), .int .u16 al2]) (by kernel_rfl)) ?_
          refine nE (fun y FF hA => dD (bb V.k9 rfl rfl (us := [_, _, _, _]) rfl rfl (by exact fI) (by exact Nat.le_of_ble_eq_true rfl) rfl) ⟨rfl, .refl _⟩) ?_
          refine nA ?_
          refine cG ?_
          intro y hA
          clear hA
          refine bj<|(Vw) ?_
          refine bo (M := Row (aD 62 .u16) ps v.length cs (v.map (aa.up h.dep)) :: ai bf 90 [.int .i64 h.w, .int .i64 h.h, .int .i64 h.dep, .int .i64 h.ar, .bool h.aZ, .slice pp pl.length cp, .slice pt tr.length ct, .slice pd nd cd, .slice pk (aa.aQ h tr).length ck] :: Rk :: Rv :: R :: ai b4 68 [.int .u16 ((aD 62 .u16).g (v.map (aa.up h.dep)) 0), .int .u16 ((aD 62 .u16).g (v.map (aa.up h.dep)) 1), .int .u16 ((aD 62 .u16).g (v.map (aa.up h.dep)) 2), .int .u16 al2] :: F) (fun _ _ h => h)<|(Yj) ?_
          simp only [List.nil_append]
          refine (Qa) ?_
          obtain ⟨e0, e1, e2, e3⟩ := aa.we ((aa.KO (f := ⟨h, pl, tr⟩) (v := v) (show ¬ (h.ar = 0 ∨ h.ar = 4) from by omega) h3).symm.trans hpx)
          exact af (dP V.k9 rfl jR rfl rfl) ⟨by rw [← e0, ← e1, ← e2, ← e3, hal2]; rfl, rfl⟩ (sub (lZ .nil) bp)
theorem Hq (h : aa.Hd) (bf : Nat) (pp : Option Addr) (pl : List Int) (cp : Nat) (pt : Option Addr) (tr : List Int) (ct : Nat) (pd : Option Addr) (nd cd : Nat) (pk : Option Addr) (ck : Nat) (R : ad) (hP : ∀ w0 h, R w0 h → aF U5 pp pl.length pl w0 h) (hT : ∀ w0 h, R w0 h → aF U5 pt tr.length tr w0 h) (hcp : pl.length ≤ cp) (hB : ag.an pl) (hBt : ag.an tr) (hpl : pl.length < 500000000) (htl : tr.length < 500000000) (pv : Option Addr) (cv : Nat) (v : List Int) (Rk Rv : ad) (hRk : ∀ w0 h_, Rk w0 h_ → aF (aD 3 .i64) pk (aa.aQ h tr).length (aa.aQ h tr) w0 h_) (hRv : ∀ w0 h_, Rv w0 h_ → aF (aD 3 .i64) pv v.length v w0 h_) (hf : aa.fq ⟨h, pl, tr⟩) (hvl : v.length = (aa.parts h.ar).toNat) (hvx : ∀ x ∈ v, 0 ≤ x ∧ x < 2 ^ h.dep.toNat) (hk2 : v.getD 0 0 < 100000000) (hpx : aa.gg ⟨h, pl, tr⟩ v = none) : az Tryz.prog 151 [.pointer (some ⟨bf, 0, none⟩), .slice pv v.length cv] [ai bf 90 [.int .i64 h.w, .int .i64 h.h, .int .i64 h.dep, .int .i64 h.ar, .bool h.aZ, .slice pp pl.length cp, .slice pt tr.length ct, .slice pd nd cd, .slice pk (aa.aQ h tr).length ck], Rk, Rv, R] (aG fun e G => e = .tuple #[.agg #[.int .u16 0, .int .u16 0, .int .u16 0, .int .u16 0], .bool false] ∧ G = [ai bf 90 [.int .i64 h.w, .int .i64 h.h, .int .i64 h.dep, .int .i64 h.ar, .bool h.aZ, .slice pp pl.length cp, .slice pt tr.length ct, .slice pd nd cd, .slice pk (aa.aQ h tr).length ck], Rk, Rv, R]) := by
  by_cases h3 : h.ar = 3
  · have hx := hvx (v.getD 0 0) (aa.hG (by have := aa.gm (c := h.ar) (d := h.dep) (by unfold aa.fq at hf; exact hf.1); omega))
    obtain ⟨k, hk⟩ : ∃ k : Nat, v.getD 0 0 = (k : Int) := ⟨(v.getD 0 0).toNat, by omega⟩
    rw [aa.y9 h3, hk] at hpx
    refine FB h bf pp pl cp pt tr ct pd nd cd pk ck R hP hT hcp hB hBt hpl htl pv cv v Rk Rv hRk hRv hf hvl hvx h3 k hk (by omega)<|Classical.not_not.1 fun q => ?_
    rw [show ((k : Int)).toNat = k from rfl, aa.E6 q] at hpx
    cases hpx
  · rw [aa.tU h3] at hpx; cases hpx
theorem GG (h : aa.Hd) (bf : Nat) (pp : Option Addr) (pl : List Int) (cp : Nat) (pt : Option Addr) (tr : List Int) (ct : Nat) (pd : Option Addr) (nd cd : Nat) (pk : Option Addr) (ck : Nat) (R : ad) (hP : ∀ w0 h, R w0 h → aF U5 pp pl.length pl w0 h) (hT : ∀ w0 h, R w0 h → aF U5 pt tr.length tr w0 h) (hcp : pl.length ≤ cp) (hB : ag.an pl) (hBt : ag.an tr) (hpl : pl.length < 500000000) (htl : tr.length < 500000000) (pv : Option Addr) (cv : Nat) (v : List Int) (Rk Rv : ad) (hRk : ∀ w0 h_, Rk w0 h_ → aF (aD 3 .i64) pk (aa.aQ h tr).length (aa.aQ h tr) w0 h_) (hRv : ∀ w0 h_, Rv w0 h_ → aF (aD 3 .i64) pv v.length v w0 h_) (hf : aa.fq ⟨h, pl, tr⟩) (hvl : v.length = (aa.parts h.ar).toNat) (hvx : ∀ x ∈ v, 0 ≤ x ∧ x < 2 ^ h.dep.toNat) (hk2 : v.getD 0 0 < 100000000) (c0 c1 c2 c3 : Int) (hpx : aa.gg ⟨h, pl, tr⟩ v = some [c0, c1, c2, c3]) : az Tryz.prog 151 [.pointer (some ⟨bf, 0, none⟩), .slice pv v.length cv] [ai bf 90 [.int .i64 h.w, .int .i64 h.h, .int .i64 h.dep, .int .i64 h.ar, .bool h.aZ, .slice pp pl.length cp, .slice pt tr.length ct, .slice pd nd cd, .slice pk (aa.aQ h tr).length ck], Rk, Rv, R] (aG fun e G => e = .tuple #[.agg #[.int .u16 c0, .int .u16 c1, .int .u16 c2, .int .u16 c3], .bool true] ∧ G = [ai bf 90 [.int .i64 h.w, .int .i64 h.h, .int .i64 h.dep, .int .i64 h.ar, .bool h.aZ, .slice pp pl.length cp, .slice pt tr.length ct, .slice pd nd cd, .slice pk (aa.aQ h tr).length ck], Rk, Rv, R]) := by
  by_cases h3 : h.ar = 3
  · have hx := hvx (v.getD 0 0) (aa.hG (by have := aa.gm (c := h.ar) (d := h.dep) (by unfold aa.fq at hf; exact hf.1); omega))
    obtain ⟨k, hk⟩ : ∃ k : Nat, v.getD 0 0 = (k : Int) := ⟨(v.getD 0 0).toNat, by omega⟩
    rw [aa.y9 h3, hk, show ((k : Int)).toNat = k from rfl] at hpx
    have q : ¬ pl.length / 3 ≤ k := fun q => by rw [aa.R7 q] at hpx; cases hpx
    rw [aa.E6 q] at hpx
    obtain ⟨rfl, rfl, rfl, rfl⟩ := aa.we hpx
    exact DZ h bf pp pl cp pt tr ct pd nd cd pk ck R hP hT hcp hB hBt hpl htl pv cv v Rk Rv hRk hRv hf hvl hvx h3 k hk (by omega) q
  · exact Dm h bf pp pl cp pt tr ct pd nd cd pk ck R hP hT hcp hB hBt hpl htl pv cv v Rk Rv hRk hRv hf hvl hvx h3 c0 c1 c2 c3 hpx
end Go.Proofs.YtmaiakpjgomnpaaGreat
namespace Go.Proofs.YtmaiakpjgomnpaaGreat
open Go.Sl 
attribute [local irreducible] ag.an aa.off aa.pU aa.lz aa.gz aa.gx aa.iK aa.fa aa.iN aa.XH aa.rD
set_option maxHeartbeats 1000000 in
theorem BP (a : Int) (ha : -255 ≤ a ∧ a ≤ 510) (y : Int) (hy : 0 ≤ y ∧ y < 256) : az Tryz.prog 163 [.int .i64 a, .int .i64 y] [] (aG fun v G => v = .int .i64 (aa.off a y) ∧ G = []) := by
 refine au [(0, _), (1, _)] Tryz.func163 rfl Tryz.ntmps163 rfl rfl ?_
 intro w0 F
 refine Fe TT 13 rfl (by omega)<|(VU)<|(Q8) ?_
 exact af (av rfl) ⟨rfl, rfl⟩ (sub .nil ak)
set_option maxHeartbeats 1000000 in
theorem xo (a : Int) (ha : -255 ≤ a ∧ a ≤ 510) (y : Int) (hy : 0 ≤ y ∧ y < 256) : az Tryz.prog 130 [.int .i64 a, .int .u8 y] [] (aG fun v G => v = .int .i64 (aa.off a y) ∧ G = []) := by
 refine au [(0, _), (1, _)] Tryz.func130 rfl Tryz.ntmps130 rfl rfl ?_
 intro w0 F
 refine (QV)<|(QU)<|(ny)<|(QU)<|(ny)<|(VU)<|(Q8) ?_
 exact af (av rfl) ⟨rfl, rfl⟩ (sub .nil ak)
set_option maxHeartbeats 1000000 in
theorem Ka (x : Int) (hx : 0 ≤ x ∧ x < 256) (y : Int) (hy : 0 ≤ y ∧ y < 256) (z : Int) (hz : 0 ≤ z ∧ z < 256) : az Tryz.prog 165 [.int .u8 x, .int .u8 y, .int .u8 z] [] (aG fun v G => v = .int .u8 (aa.pU x y z) ∧ G = []) := by
 refine au [(0, _), (1, _), (2, _)] Tryz.func165 rfl Tryz.ntmps165 rfl rfl ?_
 intro w0 F
 refine (QH)<|(QU)<|(Q7)<|(QU)<|(Q7)<|(QU)<|(Q3) ?_
 rcases (aa.OM x y z) with ⟨q1, q2, hs⟩ | ⟨q1, q2, q3, hs⟩ | ⟨q1, q2, q3, hs⟩ | ⟨q1, q3, hs⟩ | ⟨q1, q3, hs⟩
 ·refine (Fp)<|(vG) ?_
  rintro _ _ ⟨rfl, rfl⟩
  refine (Q6)<|(tQ) ?_
  rintro _ _ ⟨rfl, rfl⟩
  refine (zN)<|(Qj)<|(vG) ?_
  rintro _ _ ⟨rfl, rfl⟩
  refine (Ql)<|(xp) ?_
  rintro _ _ ⟨rfl, rfl⟩
  refine (Q0) ?_
  refine oV (cQ (ga rfl rfl) q2)<|(QK) ?_
  exact af (av rfl) ⟨congrArg (Value.int .u8) hs.symm, rfl⟩ (sub .nil ak)
 ·refine (Fp)<|(vG) ?_
  rintro _ _ ⟨rfl, rfl⟩
  refine (Q6)<|(tQ) ?_
  rintro _ _ ⟨rfl, rfl⟩
  refine (zN)<|(Qj)<|(vG) ?_
  rintro _ _ ⟨rfl, rfl⟩
  refine (Ql)<|(xp) ?_
  rintro _ _ ⟨rfl, rfl⟩
  refine (Q0)<|(H7)<|(Qn)<|(tQ) ?_
  rintro _ _ ⟨rfl, rfl⟩
  refine (Q6)<|(xp) ?_
  rintro _ _ ⟨rfl, rfl⟩
  refine (IH)<|(Qq) ?_
  exact af (av rfl) ⟨congrArg (Value.int .u8) hs.symm, rfl⟩ (sub .nil ak)
 ·refine (Fp)<|(vG) ?_
  rintro _ _ ⟨rfl, rfl⟩
  refine (Q6)<|(tQ) ?_
  rintro _ _ ⟨rfl, rfl⟩
  refine (zN)<|(Qj)<|(vG) ?_
  rintro _ _ ⟨rfl, rfl⟩
  refine (Ql)<|(xp) ?_
  rintro _ _ ⟨rfl, rfl⟩
  refine (Q0)<|(H7)<|(Qn)<|(tQ) ?_
  rintro _ _ ⟨rfl, rfl⟩
  refine (Q6)<|(xp) ?_
  rintro _ _ ⟨rfl, rfl⟩
  refine (JB)<|(QK) ?_
  exact af (av rfl) ⟨congrArg (Value.int .u8) hs.symm, rfl⟩ (sub .nil ak)
 ·refine (Fp)<|(vG) ?_
  rintro _ _ ⟨rfl, rfl⟩
  refine (Q6)<|(tQ) ?_
  rintro _ _ ⟨rfl, rfl⟩
  refine (HS) ?_
  refine rO TT 17 rfl<|(tQ) ?_
  rintro _ _ ⟨rfl, rfl⟩
  refine (Q6)<|(xp) ?_
  rintro _ _ ⟨rfl, rfl⟩
  refine (IH)<|(Qq) ?_
  exact af (av rfl) ⟨congrArg (Value.int .u8) hs.symm, rfl⟩ (sub .nil ak)
 ·refine (Fp)<|(vG) ?_
  rintro _ _ ⟨rfl, rfl⟩
  refine (Q6)<|(tQ) ?_
  rintro _ _ ⟨rfl, rfl⟩
  refine (HS) ?_
  refine rO TT 17 rfl<|(tQ) ?_
  rintro _ _ ⟨rfl, rfl⟩
  refine (Q6)<|(xp) ?_
  rintro _ _ ⟨rfl, rfl⟩
  refine (JB)<|(QK) ?_
  exact af (av rfl) ⟨congrArg (Value.int .u8) hs.symm, rfl⟩ (sub .nil ak)
set_option maxHeartbeats 1000000 in
theorem LB (x : Int) (hx : 0 ≤ x ∧ x < 256) (y : Int) (hy : 0 ≤ y ∧ y < 256) (z : Int) (hz : 0 ≤ z ∧ z < 256) : az Tryz.prog 95 [.int .u8 x, .int .u8 y, .int .u8 z] [] (aG fun v G => v = .int .u8 (aa.pU x y z) ∧ G = []) := by
 refine au [(0, _), (1, _), (2, _)] Tryz.func95 rfl Tryz.ntmps95 rfl rfl ?_
 intro w0 F
 refine (QH)<|(QU)<|(Q7)<|(QU)<|(ny)<|(QU)<|(tt) ?_
 rcases (aa.OM x y z) with ⟨q1, q2, hs⟩ | ⟨q1, q2, q3, hs⟩ | ⟨q1, q2, q3, hs⟩ | ⟨q1, q3, hs⟩ | ⟨q1, q3, hs⟩
 ·refine (Q4)<|(FD) ?_
  rintro _ _ ⟨rfl, rfl⟩
  refine (Q6)<|(Ft) ?_
  rintro _ _ ⟨rfl, rfl⟩
  refine (Q6)<|(FI) ?_
  rintro _ _ ⟨rfl, rfl⟩
  refine (Qp)<|(zN)<|(Qj) ?_
  refine oV (cQ (ga rfl rfl) q2)<|(QK) ?_
  exact af (av rfl) ⟨congrArg (Value.int .u8) hs.symm, rfl⟩ (sub .nil ak)
 ·refine (Q4)<|(FD) ?_
  rintro _ _ ⟨rfl, rfl⟩
  refine (Q6)<|(Ft) ?_
  rintro _ _ ⟨rfl, rfl⟩
  refine (Q6)<|(FI) ?_
  rintro _ _ ⟨rfl, rfl⟩
  refine (Qp)<|(zN)<|(Qj)<|(H7)<|(Qn)<|(IH)<|(Qq) ?_
  exact af (av rfl) ⟨congrArg (Value.int .u8) hs.symm, rfl⟩ (sub .nil ak)
 ·refine (Q4)<|(FD) ?_
  rintro _ _ ⟨rfl, rfl⟩
  refine (Q6)<|(Ft) ?_
  rintro _ _ ⟨rfl, rfl⟩
  refine (Q6)<|(FI) ?_
  rintro _ _ ⟨rfl, rfl⟩
  refine (Qp)<|(zN)<|(Qj)<|(H7)<|(Qn)<|(JB)<|(QK) ?_
  exact af (av rfl) ⟨congrArg (Value.int .u8) hs.symm, rfl⟩ (sub .nil ak)
 ·refine (Q4)<|(FD) ?_
  rintro _ _ ⟨rfl, rfl⟩
  refine (Q6)<|(Ft) ?_
  rintro _ _ ⟨rfl, rfl⟩
  refine (Q6)<|(FI) ?_
  rintro _ _ ⟨rfl, rfl⟩
  refine (Qp)<|(HS)<|(Qq)<|(IH)<|(Qq) ?_
  exact af (av rfl) ⟨congrArg (Value.int .u8) hs.symm, rfl⟩ (sub .nil ak)
 ·refine (Q4)<|(FD) ?_
  rintro _ _ ⟨rfl, rfl⟩
  refine (Q6)<|(Ft) ?_
  rintro _ _ ⟨rfl, rfl⟩
  refine (Q6)<|(FI) ?_
  rintro _ _ ⟨rfl, rfl⟩
  refine (Qp)<|(HS)<|(Qq)<|(JB)<|(QK) ?_
  exact af (av rfl) ⟨congrArg (Value.int .u8) hs.symm, rfl⟩ (sub .nil ak)
set_option maxHeartbeats 1000000 in
theorem Gj (p : Option Addr) (c n : Nat) (L : List Int) (R : ad) (hR : ∀ w0 h, R w0 h → aF U5 p n L w0 h) (hn : L.length = n) (hB : ag.an L) (j : Int) : az Tryz.prog 164 [.slice p n c, .int .i64 j] [R] (aG fun v G => v = .int .u8 (aa.rD L j) ∧ G = [R]) := by
 refine au [(0, _), (1, _)] Tryz.func164 rfl Tryz.ntmps164 rfl rfl ?_
 intro w0 F
 refine (QO) ?_
 rcases (aa.XB L j) with ⟨q1, hs⟩ | ⟨q1, q2, hs⟩ | ⟨q1, q2, hs⟩
 ·refine (Q4)<|(mg) ?_
  exact rO TT 16 rfl<|af (av rfl) ⟨congrArg (Value.int .u8) hs.symm, rfl⟩ (sub (aq .nil) ak)
 ·refine (Q4)<|(QE)<|(QC)<|(QM)<|(Qp) ?_
  exact af (av rfl) ⟨congrArg (Value.int .u8) hs.symm, rfl⟩ (sub (aq .nil) ak)
 ·refine (Q4)<|(QE)<|(QC)<|(m9)<|(Qg)<|(I2)<|(I9)<|(Q8) ?_
  exact af (av rfl) ⟨congrArg (Value.int .u8) hs.symm, rfl⟩ (sub (aq .nil) ak)
set_option maxHeartbeats 1000000 in
theorem O7 (kind : Int) (p1 : Option Addr) (c1 n1 : Nat) (L1 : List Int) (R1 : ad) (hR1 : ∀ w0 h, R1 w0 h → aF U5 p1 n1 L1 w0 h) (hn1 : L1.length = n1) (hB1 : ag.an L1) (p2 : Option Addr) (c2 n2 : Nat) (L2 : List Int) (R2 : ad) (hR2 : ∀ w0 h, R2 w0 h → aF U5 p2 n2 L2 w0 h) (hn2 : L2.length = n2) (hB2 : ag.an L2) (i back : Nat) (hi : i < 500000000) (hbk : back ≤ 8) : az Tryz.prog 141 [.int .i64 kind, .slice p1 n1 c1, .slice p2 n2 c2, .int .i64 (back : Int), .int .i64 (i : Int)] [R1, R2] (aG fun v G => v = .int .u8 (aa.lz kind (aa.gz L1 i back) (L2.getD i 0) (aa.gz L2 i back)) ∧ G = [R1, R2]) := by
 refine au [(0, _), (1, _), (2, _), (3, _), (4, _)] Tryz.func141 rfl Tryz.ntmps141 rfl rfl ?_
 intro w0 F
 have ha := aa.wq hB1 i back
 have hb : 0 ≤ (L2.getD i 0) ∧ (L2.getD i 0) < 256 := hB2.get i
 have hd := aa.wq hB2 i back
 refine Fe TT 11 rfl (by omega)<|aj (Gj p1 c1 n1 L1 R1 hR1 hn1 hB1 ((i : Int) - (back : Int))) V.Hf  rfl (aq .nil) rfl ?_
 rintro _ _ ⟨rfl, rfl⟩
 rw [aa.Ez]
 refine (Q6) ?_
 refine aj (Gj p2 c2 n2 L2 R2 hR2 hn2 hB2 (i : Int)) V.Hf  rfl (.cons aw .nil) rfl ?_
 rintro _ _ ⟨rfl, rfl⟩
 rw [aa.KQ]
 refine (tt) ?_
 refine aj (Gj p2 c2 n2 L2 R2 hR2 hn2 hB2 ((i : Int) - (back : Int))) V.Hf  rfl (aq .nil) rfl ?_
 rintro _ _ ⟨rfl, rfl⟩
 rw [aa.Ez]
 refine (Q3) ?_
 rcases (aa.N0 kind (aa.gz L1 i back) (L2.getD i 0) (aa.gz L2 i back)) with ⟨q1, hs⟩ | ⟨q1, q2, hs⟩ | ⟨q1, q2, q3, hs⟩ | ⟨q1, q2, q3, q4, hs⟩ | ⟨q1, q2, q3, q4, hs⟩
 ·refine (kC)<|(Qz)<|(Qq) ?_
  exact af (av rfl) ⟨congrArg (Value.int .u8) hs.symm, rfl⟩ (sub (.cons aw (aq .nil)) ak)
 ·refine (kC) ?_
  refine (QB) ?_
  refine (Q1) ?_
  refine (Qz) ?_
  refine (Qq) ?_
  exact af (av rfl) ⟨congrArg (Value.int .u8) hs.symm, rfl⟩ (sub (.cons aw (aq .nil)) ak)
 ·refine (kC) ?_
  refine (QB) ?_
  refine (Q1) ?_
  refine (QB) ?_
  refine (Q1) ?_
  refine (Qz) ?_
  refine (Qd) ?_
  refine (QU) ?_
  refine (Q7) ?_
  refine (QU) ?_
  refine gV TT 1 rfl (by omega) ?_
  refine (WE) ?_
  refine (nu) ?_
  refine (Q1) ?_
  exact af (av rfl) ⟨congrArg (Value.int .u8) hs.symm, rfl⟩ (sub (.cons aw (aq .nil)) ak)
 ·refine (kC) ?_
  refine (QB) ?_
  refine (Q1) ?_
  refine (QB) ?_
  refine (Q1) ?_
  refine (QB) ?_
  refine (Q1) ?_
  refine (Qz) ?_
  refine (Qn) ?_
  refine aj (Ka (aa.gz L1 i back) ha (L2.getD i 0) hb (aa.gz L2 i back) hd) V.Xz  rfl .nil rfl ?_
  rintro _ _ ⟨rfl, rfl⟩
  refine (Q1) ?_
  exact af (av rfl) ⟨congrArg (Value.int .u8) hs.symm, rfl⟩ (sub (.cons aw (aq .nil)) ak)
 ·refine (kC) ?_
  refine (QB) ?_
  refine (Q1) ?_
  refine (QB) ?_
  refine (Q1) ?_
  refine (QB) ?_
  refine (Q1) ?_
  refine (QB) ?_
  refine (Qq) ?_
  exact af (av rfl) ⟨congrArg (Value.int .u8) hs.symm, rfl⟩ (sub (.cons aw (aq .nil)) ak)
set_option maxHeartbeats 1000000 in
theorem P0 (kind : Int) (p1 : Option Addr) (c1 n1 : Nat) (L1 : List Int) (R1 : ad) (hR1 : ∀ w0 h, R1 w0 h → aF U5 p1 n1 L1 w0 h) (hn1 : L1.length = n1) (hB1 : ag.an L1) (p2 : Option Addr) (c2 n2 : Nat) (L2 : List Int) (R2 : ad) (hR2 : ∀ w0 h, R2 w0 h → aF U5 p2 n2 L2 w0 h) (hn2 : L2.length = n2) (hB2 : ag.an L2) (i back : Nat) (hi : i < 500000000) (hbk : back ≤ 8) (hi1 : i < n1) (hi2 : n2 = 0 ∨ i < n2) : az Tryz.prog 61 [.int .i64 kind, .slice p1 n1 c1, .slice p2 n2 c2, .int .i64 (i : Int), .int .i64 (back : Int)] [R1, R2] (aG fun v G => v = .int .u8 (aa.lz kind (aa.gz L1 i back) (L2.getD i 0) (aa.gz L2 i back)) ∧ G = [R1, R2]) := by
 refine au [(0, _), (1, _), (2, _), (3, _), (4, _)] Tryz.func61 rfl Tryz.ntmps61 rfl rfl ?_
 intro w0 F
 have ha := aa.wq hB1 i back
 have hb : 0 ≤ (L2.getD i 0) ∧ (L2.getD i 0) < 256 := hB2.get i
 have hd := aa.wq hB2 i back
 refine rT TT 12 rfl ?_
 refine jF (fun (u : Unit) => [(0, .int .i64 kind), (2, .slice p2 n2 c2), (3, .int .i64 (i : Int)), (4, .int .i64 (back : Int)), (11, .int .u8 (aa.gz L1 i back)), (12, .int .u8 0), (13, .int .u8 0)]) (fun (u : Unit) => R1 :: R2 :: F) (fun (u : Unit) => True) ?_ ?_
 ·rcases (Nat.lt_or_ge i back) with hlt | hlt
  ·refine rL TT 4 rfl<|(m9)<|(Q8) ?_
   (rw [aa.JD (by assumption)]; exact j1 () trivial (gI (bB ln)) (sub (aO .nil) ak))
  ·refine rL TT 4 rfl<|(QM)<|(QQ) ?_
   refine oV (xI V.bN (by exact bM hR1 aB))<|oV (xL V.s5 (by exact bM hR1 aB))<|(Q6) ?_
   (rw [show (aa.gz L1 i back) = U5.g L1 ((i : Int) - (back : Int)) from aa.Iz hlt]; exact j1 () trivial (gI (bB ln)) (sub (aO .nil) ak))
 ·intro u
  rintro -
  refine jF (fun (u : Unit) => [(0, .int .i64 kind), (11, .int .u8 (aa.gz L1 i back)), (12, .int .u8 (L2.getD i 0)), (13, .int .u8 (aa.gz L2 i back))]) (fun (u : Unit) => R1 :: R2 :: F) (fun (u : Unit) => True) ?_ ?_
  ·rcases (Nat.eq_zero_or_pos n2) with hz | hz
   ·refine rL TT 4 rfl<|(Qr)<|(Q8) ?_
    (obtain rfl : L2 = [] := List.length_eq_zero_iff.1 (by omega); rw [aa.Mp]; exact j1 () trivial (eG ln) (sub (aO .nil) ak))
   ·refine rL TT 4 rfl<|(Qu)<|(Qd)<|(Vm)<|(Qi) ?_
    rcases (Nat.lt_or_ge i back) with hlt | hlt
    ·refine (Q4)<|(m9)<|(Q8) ?_
     (rw [aa.JD (l := L2) (by assumption)]; exact j1 () trivial (eG ln) (sub (aO .nil) ak))
    ·refine (Q4)<|(QM)<|(QQ)<|(Vm)<|(Q6) ?_
     (rw [show (aa.gz L2 i back) = U5.g L2 ((i : Int) - (back : Int)) from aa.Iz (by assumption)]; exact j1 () trivial (eG ln) (sub (aO .nil) ak))
  ·intro u
   rintro -
   rcases (aa.N0 kind (aa.gz L1 i back) (L2.getD i 0) (aa.gz L2 i back)) with ⟨q1, hs⟩ | ⟨q1, q2, hs⟩ | ⟨q1, q2, q3, hs⟩ | ⟨q1, q2, q3, q4, hs⟩ | ⟨q1, q2, q3, q4, hs⟩
   ·refine (kC)<|(Qz)<|(Qq) ?_
    exact af (av rfl) ⟨congrArg (Value.int .u8) hs.symm, rfl⟩ (sub (aO .nil) ak)
   ·refine (kC) ?_
    refine (QB) ?_
    refine (Q1) ?_
    refine (Qz) ?_
    refine (Qq) ?_
    exact af (av rfl) ⟨congrArg (Value.int .u8) hs.symm, rfl⟩ (sub (aO .nil) ak)
   ·refine (kC) ?_
    refine (QB) ?_
    refine (Q1) ?_
    refine (QB) ?_
    refine (Q1) ?_
    refine (Qz) ?_
    refine (Qd) ?_
    refine (QU) ?_
    refine (Q7) ?_
    refine (QU) ?_
    refine gV TT 1 rfl (by omega) ?_
    refine (WE) ?_
    refine (nu) ?_
    refine (Q1) ?_
    exact af (av rfl) ⟨congrArg (Value.int .u8) hs.symm, rfl⟩ (sub (aO .nil) ak)
   ·refine (kC) ?_
    refine (QB) ?_
    refine (Q1) ?_
    refine (QB) ?_
    refine (Q1) ?_
    refine (QB) ?_
    refine (Q1) ?_
    refine (Qz) ?_
    refine (Qn) ?_
    refine aj (LB (aa.gz L1 i back) ha (L2.getD i 0) hb (aa.gz L2 i back) hd) V.WM  rfl .nil rfl ?_
    rintro _ _ ⟨rfl, rfl⟩
    refine (Q1) ?_
    exact af (av rfl) ⟨congrArg (Value.int .u8) hs.symm, rfl⟩ (sub (aO .nil) ak)
   ·refine (kC) ?_
    refine (QB) ?_
    refine (Q1) ?_
    refine (QB) ?_
    refine (Q1) ?_
    refine (QB) ?_
    refine (Q1) ?_
    refine (QB) ?_
    refine (Qq) ?_
    exact af (av rfl) ⟨congrArg (Value.int .u8) hs.symm, rfl⟩ (sub (aO .nil) ak)
set_option maxHeartbeats 1000000 in
theorem Jd (kind : Int) (p1 : Option Addr) (c1 n1 : Nat) (L1 : List Int) (R1 : ad) (hR1 : ∀ w0 h, R1 w0 h → aF U5 p1 n1 L1 w0 h) (hn1 : L1.length = n1) (hB1 : ag.an L1) (p2 : Option Addr) (c2 n2 : Nat) (L2 : List Int) (R2 : ad) (hR2 : ∀ w0 h, R2 w0 h → aF U5 p2 n2 L2 w0 h) (hn2 : L2.length = n2) (hB2 : ag.an L2) (back : Nat) (hbk : 1 ≤ back ∧ back ≤ 8) (h2 : n2 = 0 ∨ n2 = n1) (hk : 0 ≤ kind) (hn1s : n1 < 500000000) (t : Bool) (ht : t = decide (kind < 5)) : az Tryz.prog 140 [.int .i64 kind, .slice p1 n1 c1, .slice p2 n2 c2, .int .i64 (back : Int)] [R1, R2] (aG fun v G => v = .bool t ∧ G = [R1, R2]) := by
 refine au [(0, _), (1, _), (2, _), (3, _)] Tryz.func140 rfl Tryz.ntmps140 rfl rfl ?_
 intro w0 F
 refine (QO) ?_
 rcases ((by by_cases h : kind < 5; exact (Nat.eq_zero_or_pos n2).elim (fun q => .inr (.inl ⟨h, q⟩)) (fun q => .inr (.inr ⟨h, q⟩)); exact .inl h : ¬ kind < 5 ∨ (kind < 5 ∧ n2 = 0) ∨ (kind < 5 ∧ 0 < n2))) with hq | ⟨hq, hz⟩ | ⟨hq, hz⟩
 ·refine (Q5)<|(QM)<|(Ql) ?_
  refine oV (bV (dV rfl rfl) hq)<|rO TT 25 rfl ?_
  (obtain rfl : t = false := ht.trans (decide_eq_false hq); exact af (G := [R1, R2]) (av rfl) ⟨rfl, rfl⟩ (sub (aO .nil) ak))
 ·refine (Q5)<|(QM)<|(Ql)<|(Iq)<|(Qj)<|(QM)<|(Qj)<|(yI)<|(QC)<|(Qz)<|(QG) ?_
  (obtain rfl : t = true := ht.trans (decide_eq_true hq); exact af (G := [R1, R2]) (av rfl) ⟨rfl, rfl⟩ (sub (aO .nil) ak))
 ·refine (Q5)<|(QM)<|(Ql)<|(Iq)<|(Qj)<|(QM)<|(Qj)<|(yI)<|(QC)<|(QB)<|(QZ)<|(Qz)<|(Q1) ?_
  (obtain rfl : t = true := ht.trans (decide_eq_true hq); exact af (G := [R1, R2]) (av rfl) ⟨rfl, rfl⟩ (sub (aO .nil) ak))
set_option maxHeartbeats 2000000 in
theorem RN (kind : Int) (p1 : Option Addr) (c1 n1 : Nat) (L1 : List Int) (R1 : ad) (hR1 : ∀ w0 h, R1 w0 h → aF U5 p1 n1 L1 w0 h) (hn1 : L1.length = n1) (hB1 : ag.an L1) (p2 : Option Addr) (c2 n2 : Nat) (L2 : List Int) (R2 : ad) (hR2 : ∀ w0 h, R2 w0 h → aF U5 p2 n2 L2 w0 h) (hn2 : L2.length = n2) (hB2 : ag.an L2) (back : Nat) (hbk : 1 ≤ back ∧ back ≤ 8) (h2 : n2 = 0 ∨ n2 = n1) (hk : 0 ≤ kind) (hn1s : n1 < 500000000) : az Tryz.prog 120 [.int .i64 kind, .slice p1 n1 c1, .slice p2 n2 c2, .int .i64 (back : Int)] [R1, R2] (aG fun v G => (4 < kind ∧ v = .tuple #[.slice none 0 0, .bool false] ∧ G = [R1, R2]) ∨ (¬ 4 < kind ∧ ∃ q cq, v = .tuple #[.slice q n1 cq, .bool true] ∧ G = [Row U5 q n1 cq (aa.fa kind L1 L2 back), R1, R2])) := by
 refine au [(0, _), (1, _), (2, _), (3, _)] Tryz.func120 rfl Tryz.ntmps120 rfl rfl ?_
 intro w0 F
 refine (me) ?_
 rcases (Int.lt_or_le 4 kind) with hq | hq
 ·refine (Qs) ?_
  refine aj (Jd kind p1 c1 n1 L1 R1 hR1 hn1 hB1 p2 c2 n2 L2 R2 hR2 hn2 hB2 back hbk h2 hk hn1s false (decide_eq_false (by omega)).symm) V.OQ  rfl (aO .nil) rfl ?_
  rintro _ _ ⟨rfl, rfl⟩
  refine (QG) ?_
  exact af (ez rfl rfl) (.inl ⟨hq, rfl, rfl⟩) (sub (aO .nil) ak)
 ·refine (Qs) ?_
  refine aj (Jd kind p1 c1 n1 L1 R1 hR1 hn1 hB1 p2 c2 n2 L2 R2 hR2 hn2 hB2 back hbk h2 hk hn1s true (decide_eq_true (by omega)).symm) V.OQ  rfl (aO .nil) rfl ?_
  rintro _ _ ⟨rfl, rfl⟩
  refine (Qg) ?_
  refine lR n1 n1 (U5) rfl rfl V.bN V.z5 rfl rfl rfl rfl (by omega) (by omega) rfl rfl ?_
  intro nf
  refine (QG) ?_
  rw [show List.replicate n1 U5.d = aa.iN kind L1 L2 back 0 from by rw [aa.Rx, hn1]]
  refine cB (fun (i : Nat) => [(0, .int .i64 kind), (2, .slice p2 n2 c2), (3, .int .i64 (back : Int)), (10, .slice (some ⟨nf, 0, none⟩) n1 n1), (22, .slice p1 n1 c1), (23, .int .i64 (n1 : Int)), (24, .int .i64 (i : Int))]) (fun (i : Nat) => Row U5 (some ⟨nf, 0, none⟩) n1 n1 (aa.iN kind L1 L2 back i) :: R1 :: R2 :: F) (fun (i : Nat) => i ≤ n1) (fun (i : Nat) => n1 - i) (i1 (0) ?_ (gI (bB ln)) (sub (fp .nil) ak)) ?_
  ·exact Nat.zero_le _
  intro i
  rintro hi
  refine (Qm) ?_
  refine aC rfl (fun h25 => ?_) (fun h25 => ?_)
  ·refine (Qs) ?_
   refine oV (xI V.bN (by exact bM hR1 dm))<|oV (xL V.s5 (by exact bM hR1 dm))<|(Qq) ?_
   refine aj (O7 kind (some ⟨nf, 0, none⟩) n1 n1 (aa.iN kind L1 L2 back i) (Row U5 (some ⟨nf, 0, none⟩) n1 n1 (aa.iN kind L1 L2 back i)) (fun _ _ hh => hh.rd) (by rw [aa.F1 (by omega)]; exact hn1) aa.Gf p2 c2 n2 L2 R2 hR2 hn2 hB2 i back (by omega) hbk.2) V.Xn  rfl (aq (.cons aw .nil)) rfl ?_
   rintro _ _ ⟨rfl, rfl⟩
   rw [aa.LP (by omega)]
   refine oV (eA (r := (aa.iK kind L1 L2 back (aa.gx kind L1 L2 back i) i)) rfl rfl ((aa.fm _).trans (aa.K6 rfl rfl)))<|oV (xI V.bN (own aB))<|cy (lQ (c := (U5)) (_) V.s5 rfl rfl rfl (by exact fI) (by omega) (by omega) rfl rfl)<|(zF) ?_
   rw [show List.set (aa.iN kind L1 L2 back i) ((i : Int)).toNat (aa.iK kind L1 L2 back (aa.gx kind L1 L2 back i) i) = aa.iN kind L1 L2 back (i + 1) from aa.Gp (by omega)]
   exact j1 (i + 1) ⟨by omega, by omega⟩ (gI (bB ln)) (sub (aq (.cons aw (.cons cW .nil))) ak)
  ·refine (Qc) ?_
   obtain rfl : i = n1 := by omega
   rw [show aa.iN kind L1 L2 back i = aa.fa kind L1 L2 back from hn1 ▸ aa.GD kind L1 L2 back]
   refine (Qs) ?_
   exact af (ez rfl rfl) (.inr ⟨by omega, _, _, rfl, rfl⟩) (sub (fp .nil) ak)
end Go.Proofs.YtmaiakpjgomnpaaGreat
namespace Go.Proofs.YtmaiakpjgomnpaaGreat
open Go.Sl
theorem V.OW : ay Tryz.prog 120 = true := by kernel_rfl
theorem V.NU : ay Tryz.prog 121 = true := by kernel_rfl
theorem V.SL : ay Tryz.prog 151 = true := by kernel_rfl
theorem V.WT : ay Tryz.prog 152 = true := by kernel_rfl
theorem V.Nx : aW Tryz.prog 145 0 = some 0 := by kernel_rfl
theorem V.Yb : aW Tryz.prog 145 1 = some 1 := by kernel_rfl
theorem V.Yn : aW Tryz.prog 145 2 = some 2 := by kernel_rfl
theorem V.Ye : aW Tryz.prog 145 3 = some 3 := by kernel_rfl
end Go.Proofs.YtmaiakpjgomnpaaGreat
namespace Go.Proofs.YtmaiakpjgomnpaaGreat
open Go.Sl 
attribute [local irreducible] ag.an aa.aT aa.up aa.bK aa.gh aa.Fg aa.deep aa.parts HW aa.aQ aa.gg aa.eu aa.pQ aa.ky aa.fq aa.eV aa.dO aa.jq aa.fS aa.fa aa.de
theorem MK (h : aa.Hd) (bf : Nat) (pp : Option Addr) (pl : List Int) (cp : Nat) (pt : Option Addr) (tr : List Int) (ct : Nat) (pd : Option Addr) (nd cd : Nat) (pk : Option Addr) (ck : Nat) (R : ad) (hP : ∀ w0 h, R w0 h → aF U5 pp pl.length pl w0 h) (hT : ∀ w0 h, R w0 h → aF U5 pt tr.length tr w0 h) (hcp : pl.length ≤ cp) (hB : ag.an pl) (hBt : ag.an tr) (hpl : pl.length < 500000000) (htl : tr.length < 500000000) (pv : Option Addr) (cv : Nat) (v : List Int) (Rk Rv : ad) (hRk : ∀ w0 h_, Rk w0 h_ → aF (aD 3 .i64) pk (aa.aQ h tr).length (aa.aQ h tr) w0 h_) (hRv : ∀ w0 h_, Rv w0 h_ → aF (aD 3 .i64) pv v.length v w0 h_) (hf : aa.fq ⟨h, pl, tr⟩) (hvl : v.length = (aa.parts h.ar).toNat) (hvx : ∀ x ∈ v, 0 ≤ x ∧ x < 2 ^ h.dep.toNat) (nv : Nat) (hnv : v.length = nv) (hk2 : v.getD 0 0 < 100000000) (hpx : aa.gg ⟨h, pl, tr⟩ v = none) : az Tryz.prog 151 [.pointer (some ⟨bf, 0, none⟩), .slice pv nv cv] [ai bf 90 [.int .i64 h.w, .int .i64 h.h, .int .i64 h.dep, .int .i64 h.ar, .bool h.aZ, .slice pp pl.length cp, .slice pt tr.length ct, .slice pd nd cd, .slice pk (aa.aQ h tr).length ck], Rk, Rv, R] (aG fun e G => e = .tuple #[.agg #[.int .u16 0, .int .u16 0, .int .u16 0, .int .u16 0], .bool false] ∧ G = [ai bf 90 [.int .i64 h.w, .int .i64 h.h, .int .i64 h.dep, .int .i64 h.ar, .bool h.aZ, .slice pp pl.length cp, .slice pt tr.length ct, .slice pd nd cd, .slice pk (aa.aQ h tr).length ck], Rk, Rv, R]) := by
 subst hnv
 exact Hq h bf pp pl cp pt tr ct pd nd cd pk ck R hP hT hcp hB hBt hpl htl pv cv v Rk Rv hRk hRv hf hvl hvx hk2 hpx
theorem OK (h : aa.Hd) (bf : Nat) (pp : Option Addr) (pl : List Int) (cp : Nat) (pt : Option Addr) (tr : List Int) (ct : Nat) (pd : Option Addr) (nd cd : Nat) (pk : Option Addr) (ck : Nat) (R : ad) (hP : ∀ w0 h, R w0 h → aF U5 pp pl.length pl w0 h) (hT : ∀ w0 h, R w0 h → aF U5 pt tr.length tr w0 h) (hcp : pl.length ≤ cp) (hB : ag.an pl) (hBt : ag.an tr) (hpl : pl.length < 500000000) (htl : tr.length < 500000000) (pv : Option Addr) (cv : Nat) (v : List Int) (Rk Rv : ad) (hRk : ∀ w0 h_, Rk w0 h_ → aF (aD 3 .i64) pk (aa.aQ h tr).length (aa.aQ h tr) w0 h_) (hRv : ∀ w0 h_, Rv w0 h_ → aF (aD 3 .i64) pv v.length v w0 h_) (hf : aa.fq ⟨h, pl, tr⟩) (hvl : v.length = (aa.parts h.ar).toNat) (hvx : ∀ x ∈ v, 0 ≤ x ∧ x < 2 ^ h.dep.toNat) (nv : Nat) (hnv : v.length = nv) (hk2 : v.getD 0 0 < 100000000) (c0 c1 c2 c3 : Int) (hpx : aa.gg ⟨h, pl, tr⟩ v = some [c0, c1, c2, c3]) : az Tryz.prog 151 [.pointer (some ⟨bf, 0, none⟩), .slice pv nv cv] [ai bf 90 [.int .i64 h.w, .int .i64 h.h, .int .i64 h.dep, .int .i64 h.ar, .bool h.aZ, .slice pp pl.length cp, .slice pt tr.length ct, .slice pd nd cd, .slice pk (aa.aQ h tr).length ck], Rk, Rv, R] (aG fun e G => e = .tuple #[.agg #[.int .u16 c0, .int .u16 c1, .int .u16 c2, .int .u16 c3], .bool true] ∧ G = [ai bf 90 [.int .i64 h.w, .int .i64 h.h, .int .i64 h.dep, .int .i64 h.ar, .bool h.aZ, .slice pp pl.length cp, .slice pt tr.length ct, .slice pd nd cd, .slice pk (aa.aQ h tr).length ck], Rk, Rv, R]) := by
 subst hnv
 exact GG h bf pp pl cp pt tr ct pd nd cd pk ck R hP hT hcp hB hBt hpl htl pv cv v Rk Rv hRk hRv hf hvl hvx hk2 c0 c1 c2 c3 hpx
theorem Ih {h : aa.Hd} {row : List Int} {i : Nat} (hd : aa.iA h.dep) (hp : 1 ≤ aa.parts h.ar) : (aa.eu h row i).getD 0 0 < 100000000 := by
 have h1 := aa.u0 (h := h) (row := row) (x := i) _ (aa.hG (l := aa.eu h row i) (i := 0) (by rw [aa.kI]; omega))
 have := aa.lO hd
 omega
set_option maxHeartbeats 8000000 in
theorem BR (h : aa.Hd) (bf : Nat) (pp : Option Addr) (pl : List Int) (cp : Nat) (pt : Option Addr) (tr : List Int) (ct : Nat) (pd : Option Addr) (nd cd : Nat) (pk : Option Addr) (ck : Nat) (R : ad) (hP : ∀ w0 h, R w0 h → aF U5 pp pl.length pl w0 h) (hT : ∀ w0 h, R w0 h → aF U5 pt tr.length tr w0 h) (hcp : pl.length ≤ cp) (hB : ag.an pl) (hBt : ag.an tr) (hpl : pl.length < 500000000) (htl : tr.length < 500000000) (Rk : ad) (hRk : ∀ w0 h_, Rk w0 h_ → aF (aD 3 .i64) pk (aa.aQ h tr).length (aa.aQ h tr) w0 h_) (hf : aa.fq ⟨h, pl, tr⟩) (hs : aa.aT h.w h.h = 0) (q : Option Addr) (n c : Nat) (hn : (n : Int) = 4 * h.w * h.h) (hcap : n ≤ c) (pix : List Int) (hpx0 : pix.length = n) (p : aa.Ps) (hp : aa.fS p h.w h.h) (yy : Nat) (hyy : (yy : Int) < p.h) (pb : Option Addr) (cb : Nat) (row : List Int) (hrl : row.length < 500000000) (hBr : ag.an row) (Rb : ad) (hRb : ∀ w0 h, Rb w0 h → aF U5 pb row.length row w0 h) (hbits : ∀ i : Nat, (i : Int) < p.w → i * (aa.parts h.ar).toNat * h.dep.toNat + (aa.parts h.ar).toNat * h.dep.toNat ≤ 8 * row.length) : az Tryz.prog 121 [.pointer (some ⟨bf, 0, none⟩), .agg #[.int .i64 h.w, .int .i64 h.h, .slice q n c], .agg #[.int .i64 p.x, .int .i64 p.y, .int .i64 p.dx, .int .i64 p.dy, .int .i64 p.w, .int .i64 p.h], .int .i64 (yy : Int), .slice pb row.length cb] [ai bf 90 [.int .i64 h.w, .int .i64 h.h, .int .i64 h.dep, .int .i64 h.ar, .bool h.aZ, .slice pp pl.length cp, .slice pt tr.length ct, .slice pd nd cd, .slice pk (aa.aQ h tr).length ck], Row (aD 62 .u16) q n c pix, Rk, Rb, R] (aG fun v G => (aa.eV ⟨h, pl, tr⟩ p (yy : Int) row p.w.toNat 0 pix = none ∧ v = .bool false ∧ ∃ P, P.length = n ∧ G = [ai bf 90 [.int .i64 h.w, .int .i64 h.h, .int .i64 h.dep, .int .i64 h.ar, .bool h.aZ, .slice pp pl.length cp, .slice pt tr.length ct, .slice pd nd cd, .slice pk (aa.aQ h tr).length ck], Row (aD 62 .u16) q n c P, Rk, Rb, R]) ∨ ∃ P, aa.eV ⟨h, pl, tr⟩ p (yy : Int) row p.w.toNat 0 pix = some P ∧ P.length = n ∧ v = .bool true ∧ G = [ai bf 90 [.int .i64 h.w, .int .i64 h.h, .int .i64 h.dep, .int .i64 h.ar, .bool h.aZ, .slice pp pl.length cp, .slice pt tr.length ct, .slice pd nd cd, .slice pk (aa.aQ h tr).length ck], Row (aD 62 .u16) q n c P, Rk, Rb, R]) := by
 refine au [(0, _), (1, _), (2, _), (3, _), (4, _)] Tryz.func121 rfl Tryz.ntmps121 rfl rfl ?_
 intro w0 F
 have hde : aa.deep h.ar h.dep := by unfold aa.fq at hf; exact hf.1
 have hpc := aa.gm hde
 have hdi := aa.iY (aa.gq hde)
 obtain ⟨N, hN⟩ : ∃ N, N = (aa.parts h.ar).toNat := ⟨_, rfl⟩
 obtain ⟨D, hD⟩ : ∃ D, D = h.dep.toNat := ⟨_, rfl⟩
 have hN2 : aa.parts h.ar = (N : Int) := by omega
 have hD2 : h.dep = (D : Int) := by omega
 have hpo := hp
 unfold aa.fS aa.iF at hpo
 obtain ⟨⟨hx0, hx1, hy0, hy1, hdx, hdy, hw0, hw1, hh0, hh1⟩, hix, hiy⟩ := hpo
 have hsd := aa.il hs
 obtain ⟨RES, hRES⟩ : ∃ r, r = aa.eV ⟨h, pl, tr⟩ p (yy : Int) row p.w.toNat 0 pix := ⟨_, rfl⟩
 rw [← hRES]
 refine (rF) ?_
 intro b6
 refine jE rfl (cs := [_, _, _, _, _, _]) rfl rfl ?_
 intro b7
 refine (Q1) ?_
 refine aj (ya pb cb row Rb hRb hrl) V.OX  rfl (.cons jM .nil) rfl ?_
 rintro _ _ ⟨bx, rfl, rfl⟩
 refine (Qn) ?_
 refine oV (aA V.s3 rfl jR rfl)<|aj (iC h.ar) V.pZ  rfl .nil rfl ?_
 rintro _ _ ⟨rfl, rfl⟩
 rw [hN2]
 refine lR N N (I3) rfl rfl V.cV V.z3 rfl rfl rfl rfl (by omega) (by omega) rfl rfl ?_
 intro oS
 refine (Qd)<|(Qt)<|(Q8) ?_
 rw [show HW bx row 0 [] 0 = HW bx row (0 * N * D) [] 0 from by rw [Nat.zero_mul, Nat.zero_mul]]
 rw [show List.replicate N (aD 3 .i64).d = List.replicate N 0 from rfl]
 refine fN (fun (i : Nat) (Vo : List Int) (P : List Int) => [(0, .pointer (some ⟨bf, 0, none⟩)), (3, .int .i64 (yy : Int)), (6, .pointer (some ⟨b6, 0, none⟩)), (7, .pointer (some ⟨b7, 0, none⟩)), (11, .pointer (some ⟨bx, 0, none⟩)), (12, .slice (some ⟨oS, 0, none⟩) N N), (27, .int .i64 p.w), (28, .int .i64 (i : Int))]) (fun (i : Nat) (Vo : List Int) (P : List Int) => HW bx row (i * N * D) [] 0 :: Row (aD 3 .i64) (some ⟨oS, 0, none⟩) N N Vo :: ai b6 26 [.int .i64 h.w, .int .i64 h.h, .slice q n c] :: ai b7 145 [.int .i64 p.x, .int .i64 p.y, .int .i64 p.dx, .int .i64 p.dy, .int .i64 p.w, .int .i64 p.h] :: ai bf 90 [.int .i64 h.w, .int .i64 h.h, .int .i64 h.dep, .int .i64 h.ar, .bool h.aZ, .slice pp pl.length cp, .slice pt tr.length ct, .slice pd nd cd, .slice pk (aa.aQ h tr).length ck] :: Row (aD 62 .u16) q n c P :: Rk :: Rb :: R :: F) (fun (i : Nat) (Vo : List Int) (P : List Int) => (i : Int) ≤ p.w ∧ Vo.length = N ∧ P.length = n ∧ aa.eV ⟨h, pl, tr⟩ p (yy : Int) row (p.w.toNat - i) i P = RES) (fun (i : Nat) (Vo : List Int) (P : List Int) => p.w.toNat - i) (i3 (0) (List.replicate N 0) (pix) ?_ (gK (bB ln)) (sub (.cons aw (aq (.cons bg (.cons aw (.cons aw (.cons aw (.cons aw (.cons cW (.cons cW .nil))))))))) ak)) ?_
 ·exact ⟨by omega, List.length_replicate, hpx0, hRES.symm⟩
 intro i Vo P
 rintro ⟨hi, hVl, hPl, hres⟩
 have hSl : (aa.eu h row i).length = N := by rw [aa.kI, hN]
 refine (Qm) ?_
 refine aC rfl (fun h29 => ?_) (fun h29 => ?_)
 ·refine rC TT 19 rfl ?_
  rw [show HW bx row (i * N * D) [] 0 = HW bx row (i * N * D + 0 * D) [] 0 from by rw [Nat.zero_mul, Nat.add_zero], show Row (aD 3 .i64) (some ⟨oS, 0, none⟩) N N Vo = Row (aD 3 .i64) (some ⟨oS, 0, none⟩) N N (aa.vN (aa.eu h row i) Vo 0) from by rw [aa.Xr]]
  refine cB (fun (k : Nat) => [(0, .pointer (some ⟨bf, 0, none⟩)), (3, .int .i64 (yy : Int)), (6, .pointer (some ⟨b6, 0, none⟩)), (7, .pointer (some ⟨b7, 0, none⟩)), (11, .pointer (some ⟨bx, 0, none⟩)), (12, .slice (some ⟨oS, 0, none⟩) N N), (13, .int .i64 (i : Int)), (27, .int .i64 p.w), (28, .int .i64 (i : Int)), (32, .int .i64 (N : Int)), (33, .int .i64 (k : Int))]) (fun (k : Nat) => HW bx row (i * N * D + k * D) [] 0 :: Row (aD 3 .i64) (some ⟨oS, 0, none⟩) N N (aa.vN (aa.eu h row i) Vo k) :: ai b6 26 [.int .i64 h.w, .int .i64 h.h, .slice q n c] :: ai b7 145 [.int .i64 p.x, .int .i64 p.y, .int .i64 p.dx, .int .i64 p.dy, .int .i64 p.w, .int .i64 p.h] :: ai bf 90 [.int .i64 h.w, .int .i64 h.h, .int .i64 h.dep, .int .i64 h.ar, .bool h.aZ, .slice pp pl.length cp, .slice pt tr.length ct, .slice pd nd cd, .slice pk (aa.aQ h tr).length ck] :: Row (aD 62 .u16) q n c P :: Rk :: Rb :: R :: F) (fun (k : Nat) => k ≤ N) (fun (k : Nat) => N - k) (i1 (0) ?_ (jt (bB (bB ln))) (sub (lZ (mj .nil)) ak)) ?_
  ·exact Nat.zero_le _
  intro k
  rintro hk
  refine (Qm) ?_
  refine aC rfl (fun h34 => ?_) (fun h34 => ?_)
  ·refine (QA) ?_
   have hkD : k * D + D ≤ N * D := by have := Nat.mul_le_mul_right D (show k + 1 ≤ N by omega); rwa [Nat.add_mul, Nat.one_mul] at this
   have hbi : i * N * D + N * D ≤ 8 * row.length := by rw [hN, hD]; exact hbits i (by omega)
   have hvl := aa.ME (S := (aa.eu h row i)) (old := Vo) (k := k) (by omega) (by omega)
   refine rC TT 8 rfl<|oV (cY (v := .int .i64 (D : Int)) (aA V.s3 rfl jR rfl) (congrArg (Value.int .i64) hD2))<|aj (jC bx row (i * N * D + k * D) [] 0 D hrl hBr (by omega) (by omega)) V.sL  rfl (aq .nil) rfl ?_
   rintro _ _ ⟨rfl, rfl⟩
   refine oV (xI V.cV (own dm))<|(Yy)<|(zF) ?_
   rw [aa.XX hN hD hVl (by omega), show i * N * D + k * D + D = i * N * D + (k + 1) * D from by rw [Nat.add_mul, Nat.one_mul, Nat.add_assoc]]
   exact j1 (k + 1) ⟨by omega, by omega⟩ (jt (bB (bB ln))) (sub (lZ (mj .nil)) ak)
  ·refine (Qe) ?_
   rcases (aa.K7 ⟨h, pl, tr⟩ (aa.eu h row i)) with hpx | ⟨c0, c1, c2, c3, hpx⟩
   ·refine (Qa) ?_
    obtain rfl : N = k := by omega
    rw [show aa.vN (aa.eu h row i) Vo N = (aa.eu h row i) from hSl ▸ aa.SC (by omega)]
    refine (Q5) ?_
    refine aj (MK h bf pp pl cp pt tr ct pd nd cd pk ck R hP hT hcp hB hBt hpl htl (some ⟨oS, 0, none⟩) N (aa.eu h row i) Rk (Row (aD 3 .i64) (some ⟨oS, 0, none⟩) N N (aa.eu h row i)) hRk (fun _ _ hh => by rw [hSl]; exact hh.rd) hf (aa.kI h row i) aa.u0 N hSl (Ih (aa.gq hde) (by omega)) hpx) V.SL  rfl (.cons ig (.cons jM (.cons aw (.cons jM .nil)))) rfl ?_
    rintro _ _ ⟨rfl, rfl⟩
    refine (Qi)<|(rq) ?_
    intro b15
    refine (Es) ?_
    exact rO TT 23 rfl<|af (av rfl) (.inl ⟨aa.SA (f := ⟨h, pl, tr⟩) (by omega) hpx hres, rfl, P, hPl, rfl⟩) (sub (.cons aw (.cons Jk (.cons aw (.cons oQ (.cons bg .nil))))) IE)
   ·refine (Qa) ?_
    obtain rfl : N = k := by omega
    rw [show aa.vN (aa.eu h row i) Vo N = (aa.eu h row i) from hSl ▸ aa.SC (by omega)]
    refine (Q5) ?_
    refine aj (OK h bf pp pl cp pt tr ct pd nd cd pk ck R hP hT hcp hB hBt hpl htl (some ⟨oS, 0, none⟩) N (aa.eu h row i) Rk (Row (aD 3 .i64) (some ⟨oS, 0, none⟩) N N (aa.eu h row i)) hRk (fun _ _ hh => by rw [hSl]; exact hh.rd) hf (aa.kI h row i) aa.u0 N hSl (Ih (aa.gq hde) (by omega)) c0 c1 c2 c3 hpx) V.SL  rfl (.cons ig (.cons jM (.cons aw (.cons jM .nil)))) rfl ?_
    rintro _ _ ⟨rfl, rfl⟩
    refine (Qi)<|(rq) ?_
    intro b15
    refine (Es)<|(Qq) ?_
    have hnn : 0 ≤ (i : Int) * p.dx := Int.mul_nonneg (by omega) (by omega)
    have hnm : 0 ≤ (yy : Int) * p.dy := Int.mul_nonneg (by omega) (by omega)
    have hxx := hix i (by omega) (by omega)
    have hyv := hiy yy (by omega) (by omega)
    have hpi := aa.qC (w := h.w) (h := h.h) (x := (p.x + ((i : Int) * p.dx))) (y := (p.y + ((yy : Int) * p.dy))) ⟨by omega, by omega⟩ ⟨by omega, by omega⟩
    have h44 : 4 * h.w * h.h = 4 * (h.w * h.h) := Int.mul_assoc _ _ _
    refine (Qo) ?_
    refine oV (dv V.fZ rfl Np (vs := [_, _, _]) rfl rfl)<|oV (bd V.Nx rfl)<|(IP)<|(Q6)<|(IP)<|(CL)<|(IP)<|(Q6)<|(IP)<|(ny) ?_
    refine oV (dv V.k9 rfl aB (vs := [_, _, _, _]) rfl rfl)<|aj (S4 h.w h.h hs q n c hn hcap P (p.x + ((i : Int) * p.dx)) (p.y + ((yy : Int) * p.dy)) ⟨by omega, by omega⟩ ⟨by omega, by omega⟩ c0 c1 c2 c3) V.WT  rfl (.cons Sb .nil) rfl ?_
    rintro _ _ ⟨rfl, rfl⟩
    refine (zF) ?_
    rw [show i * N * D + N * D = (i + 1) * N * D from by rw [Nat.add_mul, Nat.add_mul, Nat.one_mul]]
    exact j3 (i + 1) (aa.eu h row i) (aa.jq h.w P (p.x + ((i : Int) * p.dx)) (p.y + ((yy : Int) * p.dy)) [c0, c1, c2, c3]) ⟨⟨by omega, hSl, by rw [aa.FP rfl (by omega)]; exact hPl, aa.SB (f := ⟨h, pl, tr⟩) (by omega) hpx hres⟩, by omega⟩ (gK (bB ln)) (sub (.cons oQ (.cons ig (.cons jM (.cons jM (.cons bg (aq (.cons aw (.cons bg (.cons aw .nil))))))))) bp)
 ·refine (o5) ?_
  exact af (av rfl) (.inr ⟨P, aa.O8 (f := ⟨h, pl, tr⟩) (by omega) hres, hPl, rfl, rfl⟩) (sub (.cons ig (.cons ig (.cons ig (.cons ig (.cons ig .nil))))) lA)
theorem Lr (kind : Int) (p1 : Option Addr) (c1 n1 : Nat) (L1 : List Int) (R1 : ad) (hR1 : ∀ w0 h, R1 w0 h → aF U5 p1 n1 L1 w0 h) (hn1 : L1.length = n1) (hB1 : ag.an L1) (p2 : Option Addr) (c2 n2 : Nat) (L2 : List Int) (R2 : ad) (hR2 : ∀ w0 h, R2 w0 h → aF U5 p2 n2 L2 w0 h) (hn2 : L2.length = n2) (hB2 : ag.an L2) (back : Nat) (hbk : 1 ≤ back ∧ back ≤ 8) (h2 : n2 = 0 ∨ n2 = n1) (hk : 0 ≤ kind) (hn1s : n1 < 500000000) (hq : 4 < kind) : az Tryz.prog 120 [.int .i64 kind, .slice p1 n1 c1, .slice p2 n2 c2, .int .i64 (back : Int)] [R1, R2] (aG fun v G => v = .tuple #[.slice none 0 0, .bool false] ∧ G = [R1, R2]) := by
 refine (Wr) ?_
 rintro e2 G ⟨v, rfl, (⟨_, rfl, rfl⟩ | ⟨h, _⟩)⟩
 ·exact ⟨_, rfl, rfl, rfl⟩
 ·exact absurd hq h
theorem Lb (kind : Int) (p1 : Option Addr) (c1 n1 : Nat) (L1 : List Int) (R1 : ad) (hR1 : ∀ w0 h, R1 w0 h → aF U5 p1 n1 L1 w0 h) (hn1 : L1.length = n1) (hB1 : ag.an L1) (p2 : Option Addr) (c2 n2 : Nat) (L2 : List Int) (R2 : ad) (hR2 : ∀ w0 h, R2 w0 h → aF U5 p2 n2 L2 w0 h) (hn2 : L2.length = n2) (hB2 : ag.an L2) (back : Nat) (hbk : 1 ≤ back ∧ back ≤ 8) (h2 : n2 = 0 ∨ n2 = n1) (hk : 0 ≤ kind) (hn1s : n1 < 500000000) (hq : ¬ 4 < kind) : az Tryz.prog 120 [.int .i64 kind, .slice p1 n1 c1, .slice p2 n2 c2, .int .i64 (back : Int)] [R1, R2] (aG fun v G => ∃ a : Option Addr × Nat, v = .tuple #[.slice a.1 n1 a.2, .bool true] ∧ G = [Row U5 a.1 n1 a.2 (aa.fa kind L1 L2 back), R1, R2]) := by
 refine (Wr) ?_
 rintro e2 G ⟨v, rfl, (⟨h, _⟩ | ⟨_, q, cq, rfl, rfl⟩)⟩
 ·exact absurd h hq
 ·exact ⟨_, rfl, (q, cq), rfl, rfl⟩
theorem SP (h : aa.Hd) (bf : Nat) (pp : Option Addr) (pl : List Int) (cp : Nat) (pt : Option Addr) (tr : List Int) (ct : Nat) (pd : Option Addr) (nd cd : Nat) (pk : Option Addr) (ck : Nat) (R : ad) (hP : ∀ w0 h, R w0 h → aF U5 pp pl.length pl w0 h) (hT : ∀ w0 h, R w0 h → aF U5 pt tr.length tr w0 h) (hcp : pl.length ≤ cp) (hB : ag.an pl) (hBt : ag.an tr) (hpl : pl.length < 500000000) (htl : tr.length < 500000000) (Rk : ad) (hRk : ∀ w0 h_, Rk w0 h_ → aF (aD 3 .i64) pk (aa.aQ h tr).length (aa.aQ h tr) w0 h_) (hf : aa.fq ⟨h, pl, tr⟩) (hs : aa.aT h.w h.h = 0) (q : Option Addr) (n c : Nat) (hn : (n : Int) = 4 * h.w * h.h) (hcap : n ≤ c) (pix : List Int) (hpx0 : pix.length = n) (p : aa.Ps) (hp : aa.fS p h.w h.h) (yy : Nat) (hyy : (yy : Int) < p.h) (pb : Option Addr) (cb : Nat) (row : List Int) (hrl : row.length < 500000000) (hBr : ag.an row) (Rb : ad) (hRb : ∀ w0 h, Rb w0 h → aF U5 pb row.length row w0 h) (hbits : ∀ i : Nat, (i : Int) < p.w → i * (aa.parts h.ar).toNat * h.dep.toNat + (aa.parts h.ar).toNat * h.dep.toNat ≤ 8 * row.length) (nl : Nat) (hnl : row.length = nl) (hr : aa.eV ⟨h, pl, tr⟩ p (yy : Int) row p.w.toNat 0 pix = none) : az Tryz.prog 121 [.pointer (some ⟨bf, 0, none⟩), .agg #[.int .i64 h.w, .int .i64 h.h, .slice q n c], .agg #[.int .i64 p.x, .int .i64 p.y, .int .i64 p.dx, .int .i64 p.dy, .int .i64 p.w, .int .i64 p.h], .int .i64 (yy : Int), .slice pb nl cb] [ai bf 90 [.int .i64 h.w, .int .i64 h.h, .int .i64 h.dep, .int .i64 h.ar, .bool h.aZ, .slice pp pl.length cp, .slice pt tr.length ct, .slice pd nd cd, .slice pk (aa.aQ h tr).length ck], Row (aD 62 .u16) q n c pix, Rk, Rb, R] (aG fun v G => v = .bool false ∧ ∃ P, P.length = n ∧ G = [ai bf 90 [.int .i64 h.w, .int .i64 h.h, .int .i64 h.dep, .int .i64 h.ar, .bool h.aZ, .slice pp pl.length cp, .slice pt tr.length ct, .slice pd nd cd, .slice pk (aa.aQ h tr).length ck], Row (aD 62 .u16) q n c P, Rk, Rb, R]) := by
 subst hnl
 refine (BR h bf pp pl cp pt tr ct pd nd cd pk ck R hP hT hcp hB hBt hpl htl Rk hRk hf hs q n c hn hcap pix hpx0 p hp yy hyy pb cb row hrl hBr Rb hRb hbits).mono ?_
 rintro e2 G ⟨v, rfl, (⟨_, rfl, P, h1, rfl⟩ | ⟨P, h, _⟩)⟩
 ·exact ⟨_, rfl, rfl, P, h1, rfl⟩
 ·rw [hr] at h; cases h
theorem Pa (h : aa.Hd) (bf : Nat) (pp : Option Addr) (pl : List Int) (cp : Nat) (pt : Option Addr) (tr : List Int) (ct : Nat) (pd : Option Addr) (nd cd : Nat) (pk : Option Addr) (ck : Nat) (R : ad) (hP : ∀ w0 h, R w0 h → aF U5 pp pl.length pl w0 h) (hT : ∀ w0 h, R w0 h → aF U5 pt tr.length tr w0 h) (hcp : pl.length ≤ cp) (hB : ag.an pl) (hBt : ag.an tr) (hpl : pl.length < 500000000) (htl : tr.length < 500000000) (Rk : ad) (hRk : ∀ w0 h_, Rk w0 h_ → aF (aD 3 .i64) pk (aa.aQ h tr).length (aa.aQ h tr) w0 h_) (hf : aa.fq ⟨h, pl, tr⟩) (hs : aa.aT h.w h.h = 0) (q : Option Addr) (n c : Nat) (hn : (n : Int) = 4 * h.w * h.h) (hcap : n ≤ c) (pix : List Int) (hpx0 : pix.length = n) (p : aa.Ps) (hp : aa.fS p h.w h.h) (yy : Nat) (hyy : (yy : Int) < p.h) (pb : Option Addr) (cb : Nat) (row : List Int) (hrl : row.length < 500000000) (hBr : ag.an row) (Rb : ad) (hRb : ∀ w0 h, Rb w0 h → aF U5 pb row.length row w0 h) (hbits : ∀ i : Nat, (i : Int) < p.w → i * (aa.parts h.ar).toNat * h.dep.toNat + (aa.parts h.ar).toNat * h.dep.toNat ≤ 8 * row.length) (nl : Nat) (hnl : row.length = nl) (P2 : List Int) (hr : aa.eV ⟨h, pl, tr⟩ p (yy : Int) row p.w.toNat 0 pix = some P2) : az Tryz.prog 121 [.pointer (some ⟨bf, 0, none⟩), .agg #[.int .i64 h.w, .int .i64 h.h, .slice q n c], .agg #[.int .i64 p.x, .int .i64 p.y, .int .i64 p.dx, .int .i64 p.dy, .int .i64 p.w, .int .i64 p.h], .int .i64 (yy : Int), .slice pb nl cb] [ai bf 90 [.int .i64 h.w, .int .i64 h.h, .int .i64 h.dep, .int .i64 h.ar, .bool h.aZ, .slice pp pl.length cp, .slice pt tr.length ct, .slice pd nd cd, .slice pk (aa.aQ h tr).length ck], Row (aD 62 .u16) q n c pix, Rk, Rb, R] (aG fun v G => P2.length = n ∧ v = .bool true ∧ G = [ai bf 90 [.int .i64 h.w, .int .i64 h.h, .int .i64 h.dep, .int .i64 h.ar, .bool h.aZ, .slice pp pl.length cp, .slice pt tr.length ct, .slice pd nd cd, .slice pk (aa.aQ h tr).length ck], Row (aD 62 .u16) q n c P2, Rk, Rb, R]) := by
 subst hnl
 refine (BR h bf pp pl cp pt tr ct pd nd cd pk ck R hP hT hcp hB hBt hpl htl Rk hRk hf hs q n c hn hcap pix hpx0 p hp yy hyy pb cb row hrl hBr Rb hRb hbits).mono ?_
 rintro e2 G ⟨v, rfl, (⟨h, _⟩ | ⟨P, h, h1, rfl, rfl⟩)⟩
 ·rw [hr] at h; cases h
 ·rw [hr] at h; cases h; exact ⟨_, rfl, h1, rfl, rfl⟩
structure I8 where
 a : Nat
 pz : Option Addr
 cz : Nat
 pa : Option Addr
 na : Nat
 ca : Nat
 A : List Int
 P : List Int
set_option maxHeartbeats 8000000 in
theorem w9 (h : aa.Hd) (bf : Nat) (pp : Option Addr) (pl : List Int) (cp : Nat) (pt : Option Addr) (tr : List Int) (ct : Nat) (pd : Option Addr) (nd cd : Nat) (pk : Option Addr) (ck : Nat) (R : ad) (hP : ∀ w0 h, R w0 h → aF U5 pp pl.length pl w0 h) (hT : ∀ w0 h, R w0 h → aF U5 pt tr.length tr w0 h) (hcp : pl.length ≤ cp) (hB : ag.an pl) (hBt : ag.an tr) (hpl : pl.length < 500000000) (htl : tr.length < 500000000) (Rk : ad) (hRk : ∀ w0 h_, Rk w0 h_ → aF (aD 3 .i64) pk (aa.aQ h tr).length (aa.aQ h tr) w0 h_) (hf : aa.fq ⟨h, pl, tr⟩) (hs : aa.aT h.w h.h = 0) (q : Option Addr) (n c : Nat) (hn : (n : Int) = 4 * h.w * h.h) (hcap : n ≤ c) (pix : List Int) (hpx0 : pix.length = n) (p : aa.Ps) (hp : aa.fS p h.w h.h) (Dt : List Int) (hDB : ag.an Dt) (hDl : Dt.length < 500000000) (nr : Nat) (hnr : (nr : Int) = aa.de p.w (aa.parts h.ar * h.dep)) (back : Nat) (hback : (back : Int) = max 1 ((aa.parts h.ar * h.dep) / 8)) (at0 : Nat) (hat : at0 + p.h.toNat * (1 + nr) ≤ Dt.length) (pb : Option Addr) (cb : Nat) (Rb : ad) (hRb : ∀ w0 h, Rb w0 h → aF U5 pb (Dt.length - at0) (Dt.drop at0) w0 h) (hcb : Dt.length - at0 ≤ cb) : az Tryz.prog 86 [.pointer (some ⟨bf, 0, none⟩), .agg #[.int .i64 h.w, .int .i64 h.h, .slice q n c], .agg #[.int .i64 p.x, .int .i64 p.y, .int .i64 p.dx, .int .i64 p.dy, .int .i64 p.w, .int .i64 p.h], .slice pb (Dt.length - at0) cb] [ai bf 90 [.int .i64 h.w, .int .i64 h.h, .int .i64 h.dep, .int .i64 h.ar, .bool h.aZ, .slice pp pl.length cp, .slice pt tr.length ct, .slice pd nd cd, .slice pk (aa.aQ h tr).length ck], Row (aD 62 .u16) q n c pix, Rk, Rb, R] (aG fun v G => (aa.dO ⟨h, pl, tr⟩ Dt nr back p p.h.toNat 0 at0 [] pix = none ∧ v = .tuple #[.slice none 0 0, .bool false] ∧ ∃ P, P.length = n ∧ G = [ai bf 90 [.int .i64 h.w, .int .i64 h.h, .int .i64 h.dep, .int .i64 h.ar, .bool h.aZ, .slice pp pl.length cp, .slice pt tr.length ct, .slice pd nd cd, .slice pk (aa.aQ h tr).length ck], Row (aD 62 .u16) q n c P, Rk, Rb, R]) ∨ ∃ at2 P pz cz, aa.dO ⟨h, pl, tr⟩ Dt nr back p p.h.toNat 0 at0 [] pix = some (at2, P) ∧ P.length = n ∧ at2 = at0 + p.h.toNat * (1 + nr) ∧ (∀ w0 h, Rb w0 h → aF U5 pz (Dt.length - at2) (Dt.drop at2) w0 h) ∧ Dt.length - at2 ≤ cz ∧ v = .tuple #[.slice pz (Dt.length - at2) cz, .bool true] ∧ G = [ai bf 90 [.int .i64 h.w, .int .i64 h.h, .int .i64 h.dep, .int .i64 h.ar, .bool h.aZ, .slice pp pl.length cp, .slice pt tr.length ct, .slice pd nd cd, .slice pk (aa.aQ h tr).length ck], Row (aD 62 .u16) q n c P, Rk, Rb, R]) := by
 refine au [(0, _), (1, _), (2, _), (3, _)] Tryz.func86 rfl Tryz.ntmps86 rfl rfl ?_
 intro w0 F
 have hde : aa.deep h.ar h.dep := by unfold aa.fq at hf; exact hf.1
 have hpc := aa.gm hde
 have hdi := aa.iY (aa.gq hde)
 have hpo := hp
 unfold aa.fS aa.iF at hpo
 obtain ⟨⟨hx0, hx1, hy0, hy1, hdx, hdy, hw0, hw1, hh0, hh1⟩, hix, hiy⟩ := hpo
 have hsd := aa.il hs
 have hbits := aa.lg hde
 have hbk : 1 ≤ back ∧ back ≤ 8 := by omega
 obtain ⟨RES, hRES⟩ : ∃ r, r = aa.dO ⟨h, pl, tr⟩ Dt nr back p p.h.toNat 0 at0 [] pix := ⟨_, rfl⟩
 rw [← hRES]
 refine (rF) ?_
 intro b5
 refine jE rfl (cs := [_, _, _, _, _, _]) rfl rfl ?_
 intro b6
 refine rO TT 5 rfl ?_
 refine wN [pz 0 [] [0], pz 1 [0] [], pz 3 [1] [], pz 7 [2] [], pz 15 [3] [], pz 31 [4] [], pz 0 [] [0], pz 64 [6] [], pz 192 [7] [], pz 448 [8] [], pz 960 [9] [], pz 2047 [5, 10] [], pz 4095 [11] []] [⟨fun y => ai b6 145 [.int .i64 p.x, .int .i64 p.y, .int .i64 p.dx, .int .i64 p.dy, .int .i64 p.w, .int .i64 p.h], none, none, []⟩, ⟨fun y => ai b5 26 [.int .i64 h.w, .int .i64 h.h, .slice q n c], none, none, []⟩, ⟨fun y => ai bf 90 [.int .i64 h.w, .int .i64 h.h, .int .i64 h.dep, .int .i64 h.ar, .bool h.aZ, .slice pp pl.length cp, .slice pt tr.length ct, .slice pd nd cd, .slice pk (aa.aQ h tr).length ck], none, none, [4, 10]⟩, ⟨fun y => Row (aD 62 .u16) q n c pix, none, none, []⟩, ⟨fun y => Rk, none, none, []⟩, ⟨fun y => Rb, none, none, []⟩, ⟨fun y => R, none, none, []⟩] F V.mixed ?_
 refine nM ?_
 refine nN ?_
 refine nG V.gG ?_
 refine nG V.qM ?_
 refine nR (fun y FF hA => aA V.s3 rfl aB rfl) ?_
 refine nE (fun y FF hA => aV (Post := []) (iC h.ar) V.pZ rfl .nil (fun v G h => by rcases h with ⟨rfl, rfl⟩; exact ⟨rfl, .refl _⟩)) ?_
 refine nM ?_
 refine nN ?_
 refine nG V.gG ?_
 refine nG V.wx ?_
 refine nR (fun y FF hA => aA V.s3 rfl aB rfl) ?_
 refine nV (fun y hA L => gB (r := (aa.parts h.ar * h.dep)) rfl rfl wI) ?_
 refine nA ?_
 refine cG ?_
 intro y hA
 clear hA
 refine bj<|bE [(0, .pointer (some ⟨bf, 0, none⟩)), (3, .slice pb (Dt.length - at0) cb), (5, .pointer (some ⟨b5, 0, none⟩)), (6, .pointer (some ⟨b6, 0, none⟩)), (10, .int .i64 (aa.parts h.ar * h.dep))] (.cons (d := 0) rfl (.cons (d := 3) rfl (.cons (d := 5) rfl (.cons (d := 6) rfl (.cons (d := 10) rfl (.nil _))))))<|bo (M := ai b6 145 [.int .i64 p.x, .int .i64 p.y, .int .i64 p.dx, .int .i64 p.dy, .int .i64 p.w, .int .i64 p.h] :: ai b5 26 [.int .i64 h.w, .int .i64 h.h, .slice q n c] :: ai bf 90 [.int .i64 h.w, .int .i64 h.h, .int .i64 h.dep, .int .i64 h.ar, .bool h.aZ, .slice pp pl.length cp, .slice pt tr.length ct, .slice pd nd cd, .slice pk (aa.aQ h tr).length ck] :: Row (aD 62 .u16) q n c pix :: Rk :: Rb :: R :: F) (fun _ _ h => h)<|(tZ)<|(Q7) ?_
 refine aj (Js p.w (aa.parts h.ar * h.dep) ⟨hw0, hw1⟩ ⟨by omega, by omega⟩) V.Mu  rfl .nil rfl ?_
 rintro _ _ ⟨rfl, rfl⟩
 rw [← hnr]
 refine (Q7)<|(o8) ?_
 refine oV (cY (v := .int .i64 (back : Int)) (BA rfl rfl) (congrArg (Value.int .i64) ((aa.MB _).trans hback.symm)))<|(Qq)<|(Qf)<|(Q8)<|(ru) ?_
 refine gp (fun (yv : Nat) (s : I8) => [(0, .pointer (some ⟨bf, 0, none⟩)), (3, .slice s.pz (Dt.length - s.a) s.cz), (5, .pointer (some ⟨b5, 0, none⟩)), (6, .pointer (some ⟨b6, 0, none⟩)), (11, .int .i64 (nr : Int)), (12, .int .i64 (back : Int)), (13, .slice s.pa s.na s.ca), (37, .int .i64 p.h), (38, .int .i64 (yv : Int))]) (fun (yv : Nat) (s : I8) => Rb :: Row U5 s.pa s.na s.ca s.A :: ai b5 26 [.int .i64 h.w, .int .i64 h.h, .slice q n c] :: ai b6 145 [.int .i64 p.x, .int .i64 p.y, .int .i64 p.dx, .int .i64 p.dy, .int .i64 p.w, .int .i64 p.h] :: ai bf 90 [.int .i64 h.w, .int .i64 h.h, .int .i64 h.dep, .int .i64 h.ar, .bool h.aZ, .slice pp pl.length cp, .slice pt tr.length ct, .slice pd nd cd, .slice pk (aa.aQ h tr).length ck] :: Row (aD 62 .u16) q n c s.P :: Rk :: R :: F) (fun (yv : Nat) (s : I8) => (yv : Int) ≤ p.h ∧ s.a = at0 + yv * (1 + nr) ∧ s.P.length = n ∧ s.A.length = s.na ∧ (s.na = 0 ∨ s.na = nr) ∧ ag.an s.A ∧ (∀ w0 h, Rb w0 h → aF U5 s.pz (Dt.length - s.a) (Dt.drop s.a) w0 h) ∧ Dt.length - s.a ≤ s.cz ∧ aa.dO ⟨h, pl, tr⟩ Dt nr back p (p.h.toNat - yv) yv s.a s.A s.P = RES) (fun (yv : Nat) (s : I8) => p.h.toNat - yv) (i2 (0) (⟨at0, pb, cb, none, 0, 0, [], pix⟩) ?_ (eG (bB ln)) (sub (.cons oQ (aq (.cons aw (.cons cW (.cons cW (.cons cW (.cons cW (.cons cW .nil)))))))) ak)) ?_
 ·exact ⟨by omega, by simp, hpx0, rfl, .inl rfl, aa.ir, hRb, hcb, hRES.symm⟩
 intro yv s
 rintro ⟨hy, ha, hPl, hAl, hAn, hAB, hz, hcz, hres⟩
 refine (Qm) ?_
 refine aC rfl (fun h39 => ?_) (fun h39 => ?_)
 ·refine (QA) ?_
  rcases (aa.T6 ⟨h, pl, tr⟩ Dt nr back p yv s.a s.A s.P) with hk4 | ⟨hk4, hr⟩ | ⟨hk4, P2, hr⟩
  ·refine (Qa) ?_
   have hyh : (yv : Int) < p.h := by omega
   have hya : (yv + 1) * (1 + nr) ≤ p.h.toNat * (1 + nr) := Nat.mul_le_mul_right _ (by omega)
   rw [Nat.add_mul, Nat.one_mul] at hya
   have hKD : U5.g (Dt.drop s.a) 0 = (Dt.getD s.a 0) := aa.fE Dt s.a 0
   have hKB : 0 ≤ U5.g (Dt.drop s.a) 0 ∧ U5.g (Dt.drop s.a) 0 < 256 := hKD ▸ hDB.get _
   have hdl : (Dt.drop s.a).length = Dt.length - s.a := List.length_drop
   have hL1l : ((Dt.drop (s.a + 1)).take nr).length = nr := by rw [List.length_take, List.length_drop]; omega
   have hUl : (aa.fa (Dt.getD s.a 0) ((Dt.drop (s.a + 1)).take nr) s.A back).length = nr := (aa.uT ..).trans hL1l
   have hS1 : ∀ w0 h, Rb w0 h → aF U5 (dq s.pz 1 s.cz 1) nr ((Dt.drop (s.a + 1)).take nr) w0 h := fun w0 h hh => by have := kK (cap := 0) (fU (c := U5) hz hdl 1 s.cz (by omega) hcz) nr (by omega) w0 h hh; rwa [List.drop_drop] at this
   refine wN [pz 0 [] [3], pz 1 [0] [], pz 3 [1] [], pz 7 [2] [], pz 0 [] [3], pz 0 [] [11], pz 32 [5] [], pz 112 [4, 6] [], pz 0 [] [13], pz 0 [] [12], pz 1023 [3, 7, 8, 9] [], pz 2047 [10] [], pz 4095 [11] [], pz 4095 [11] [], pz 8191 [12] [], pz 32767 [13] []] [⟨fun y => Rb, none, none, [1, 2, 10]⟩, ⟨fun y => Row U5 s.pa s.na s.ca s.A, none, none, [10]⟩, ⟨fun y => ai b5 26 [.int .i64 h.w, .int .i64 h.h, .slice q n c], none, none, []⟩, ⟨fun y => ai b6 145 [.int .i64 p.x, .int .i64 p.y, .int .i64 p.dx, .int .i64 p.dy, .int .i64 p.w, .int .i64 p.h], none, none, []⟩, ⟨fun y => ai bf 90 [.int .i64 h.w, .int .i64 h.h, .int .i64 h.dep, .int .i64 h.ar, .bool h.aZ, .slice pp pl.length cp, .slice pt tr.length ct, .slice pd nd cd, .slice pk (aa.aQ h tr).length ck], none, none, []⟩, ⟨fun y => Row (aD 62 .u16) q n c s.P, none, none, []⟩, ⟨fun y => Rk, none, none, []⟩, ⟨fun y => R, none, none, []⟩] F V.mixed ?_
   refine nM ?_
   refine (Yc) ?_
   refine (YV) ?_
   refine (Y3) ?_
   iterate 2 refine nM ?_
   refine (Nr)<|(ND) ?_
   iterate 2 refine nM ?_
   refine nE (fun y FF hA => aV (Post := [Rb, Row U5 s.pa s.na s.ca s.A]) (Lr (Dt.getD s.a 0) (dq s.pz 1 s.cz 1) (s.cz - 1) nr ((Dt.drop (s.a + 1)).take nr) Rb hS1 hL1l (aa.fR (aa.dT hDB _) _) s.pa s.ca s.na s.A (Row U5 s.pa s.na s.ca s.A) (fun _ _ hh => hh.rd) hAl hAB back hbk (by omega) (hDB.get _).1 (by omega) hk4) V.OW rfl (aO .nil) (fun v G h => by rcases h with ⟨rfl, rfl⟩; exact ⟨rfl, .refl _⟩))<|nM ?_
   iterate 2 refine nV (fun y hA L => dQ rfl rfl) ?_
   iterate 2 refine nA ?_
   refine (Qb) ?_
   intro y hA
   clear hA
   refine bj<|bE [(0, .pointer (some ⟨bf, 0, none⟩)), (3, .slice s.pz (Dt.length - s.a) s.cz), (5, .pointer (some ⟨b5, 0, none⟩)), (6, .pointer (some ⟨b6, 0, none⟩)), (11, .int .i64 (nr : Int)), (12, .int .i64 (back : Int)), (14, .int .i64 (yv : Int)), (15, .slice none 0 0), (16, .bool false), (37, .int .i64 p.h), (38, .int .i64 (yv : Int))] (.cons (d := 0) rfl (.cons (d := 3) rfl (.cons (d := 5) rfl (.cons (d := 6) rfl (.cons (d := 11) rfl (.cons (d := 12) rfl (.cons (d := 14) rfl (.cons (d := 15) rfl (.cons (d := 16) rfl (.cons (d := 37) rfl (.cons (d := 38) rfl (.nil _))))))))))))<|bo (M := Rb :: Row U5 s.pa s.na s.ca s.A :: ai b5 26 [.int .i64 h.w, .int .i64 h.h, .slice q n c] :: ai b6 145 [.int .i64 p.x, .int .i64 p.y, .int .i64 p.dx, .int .i64 p.dy, .int .i64 p.w, .int .i64 p.h] :: ai bf 90 [.int .i64 h.w, .int .i64 h.h, .int .i64 h.dep, .int .i64 h.ar, .bool h.aZ, .slice pp pl.length cp, .slice pt tr.length ct, .slice pd nd cd, .slice pk (aa.aQ h tr).length ck] :: Row (aD 62 .u16) q n c s.P :: Rk :: R :: F) (fun _ _ h => h)<|bo (sub .nil (.keep (.skip (.keep (.keep (.keep (.keep (.keep (.keep .refl))))))))) ?_
   simp only [List.nil_append]
   refine rC TT 30 rfl ?_
   (exact af (G := [ai bf 90 [.int .i64 h.w, .int .i64 h.h, .int .i64 h.dep, .int .i64 h.ar, .bool h.aZ, .slice pp pl.length cp, .slice pt tr.length ct, .slice pd nd cd, .slice pk (aa.aQ h tr).length ck], Row (aD 62 .u16) q n c s.P, Rk, Rb, R]) (ez rfl rfl) (.inl ⟨aa.LV hyh hk4 hres, rfl, s.P, hPl, rfl⟩) (sub (.cons c9 (.cons c9 (.cons c9 (aq (.cons bg .nil))))) fP))
  ·refine (Qa) ?_
   have hyh : (yv : Int) < p.h := by omega
   have hya : (yv + 1) * (1 + nr) ≤ p.h.toNat * (1 + nr) := Nat.mul_le_mul_right _ (by omega)
   rw [Nat.add_mul, Nat.one_mul] at hya
   have hKD : U5.g (Dt.drop s.a) 0 = (Dt.getD s.a 0) := aa.fE Dt s.a 0
   have hKB : 0 ≤ U5.g (Dt.drop s.a) 0 ∧ U5.g (Dt.drop s.a) 0 < 256 := hKD ▸ hDB.get _
   have hdl : (Dt.drop s.a).length = Dt.length - s.a := List.length_drop
   have hL1l : ((Dt.drop (s.a + 1)).take nr).length = nr := by rw [List.length_take, List.length_drop]; omega
   have hUl : (aa.fa (Dt.getD s.a 0) ((Dt.drop (s.a + 1)).take nr) s.A back).length = nr := (aa.uT ..).trans hL1l
   have hS1 : ∀ w0 h, Rb w0 h → aF U5 (dq s.pz 1 s.cz 1) nr ((Dt.drop (s.a + 1)).take nr) w0 h := fun w0 h hh => by have := kK (cap := 0) (fU (c := U5) hz hdl 1 s.cz (by omega) hcz) nr (by omega) w0 h hh; rwa [List.drop_drop] at this
   refine jD [pz 0 [] [3], pz 1 [0] [], pz 3 [1] [], pz 7 [2] [], pz 0 [] [3], pz 0 [] [11], pz 32 [5] [], pz 112 [4, 6] [], pz 0 [] [13], pz 0 [] [12], pz 1023 [3, 7, 8, 9] [], pz 2047 [10] [], pz 4095 [11] [], pz 4095 [11] [], pz 8191 [12] [], pz 32767 [13] []] [⟨fun y => Rb, none, none, [1, 2, 10]⟩, ⟨fun y => Row U5 s.pa s.na s.ca s.A, none, none, [10]⟩, ⟨fun y => ai b5 26 [.int .i64 h.w, .int .i64 h.h, .slice q n c], none, none, []⟩, ⟨fun y => ai b6 145 [.int .i64 p.x, .int .i64 p.y, .int .i64 p.dx, .int .i64 p.dy, .int .i64 p.w, .int .i64 p.h], none, none, []⟩, ⟨fun y => ai bf 90 [.int .i64 h.w, .int .i64 h.h, .int .i64 h.dep, .int .i64 h.ar, .bool h.aZ, .slice pp pl.length cp, .slice pt tr.length ct, .slice pd nd cd, .slice pk (aa.aQ h tr).length ck], none, none, []⟩, ⟨fun y => Row (aD 62 .u16) q n c s.P, none, none, []⟩, ⟨fun y => Rk, none, none, []⟩, ⟨fun y => R, none, none, []⟩, ⟨fun y => Row U5 (iu (y 10)).1 nr (iu (y 10)).2 (aa.fa (Dt.getD s.a 0) ((Dt.drop (s.a + 1)).take nr) s.A back), some 10, none, []⟩] F V.mixed (by kernel_rfl) rfl (fun _ => .refl _) (aP _ (aP _ (aP _ (aP _ (aP _ (aP _ (aP _ (aP _ (cT _ rfl (by intro y y2 h; simp only [h 10 (.inl rfl)]) ft))))))))) ?_
   refine nM ?_
   refine nR (fun y FF hA => xI V.bN (by exact bM hz aB)) ?_
   refine nR (fun y FF hA => xL V.s5 (by exact bM hz aB)) ?_
   refine nV (fun y hA L => cY (v := .int .i64 (Dt.getD s.a 0)) (df V.u5 Tryz.underlying3 rfl (aa.BH hKB)) (congrArg (Value.int .i64) hKD)) ?_
   iterate 2 refine nM ?_
   refine (Nr)<|(ND) ?_
   iterate 2 refine nM ?_
   refine (UJ) ?_
   refine (Vf) ?_
   refine (N2) ?_
   refine nV (fun y hA L => dQ rfl rfl) ?_
   refine (Vj) ?_
   refine nA ?_
   refine (Qb) ?_
   intro y hA
   clear hA
   refine bj ?_
   refine bE [(0, .pointer (some ⟨bf, 0, none⟩)), (3, .slice s.pz (Dt.length - s.a) s.cz), (5, .pointer (some ⟨b5, 0, none⟩)), (6, .pointer (some ⟨b6, 0, none⟩)), (11, .int .i64 (nr : Int)), (12, .int .i64 (back : Int)), (14, .int .i64 (yv : Int)), (15, .slice (iu (y 10)).1 nr (iu (y 10)).2), (16, .bool true), (37, .int .i64 p.h), (38, .int .i64 (yv : Int))] (.cons (d := 0) rfl (.cons (d := 3) rfl (.cons (d := 5) rfl (.cons (d := 6) rfl (.cons (d := 11) rfl (.cons (d := 12) rfl (.cons (d := 14) rfl (.cons (d := 15) rfl (.cons (d := 16) rfl (.cons (d := 37) rfl (.cons (d := 38) rfl (.nil _)))))))))))) ?_
   refine bo (M := Rb :: Row U5 s.pa s.na s.ca s.A :: ai b5 26 [.int .i64 h.w, .int .i64 h.h, .slice q n c] :: ai b6 145 [.int .i64 p.x, .int .i64 p.y, .int .i64 p.dx, .int .i64 p.dy, .int .i64 p.w, .int .i64 p.h] :: ai bf 90 [.int .i64 h.w, .int .i64 h.h, .int .i64 h.dep, .int .i64 h.ar, .bool h.aZ, .slice pp pl.length cp, .slice pt tr.length ct, .slice pd nd cd, .slice pk (aa.aQ h tr).length ck] :: Row (aD 62 .u16) q n c s.P :: Rk :: R :: Row U5 (iu (y 10)).1 nr (iu (y 10)).2 (aa.fa (Dt.getD s.a 0) ((Dt.drop (s.a + 1)).take nr) s.A back) :: F) (fun _ _ h => h) ?_
   refine bo (sub .nil (.keep (.skip (.keep (.keep (.keep (.keep (.keep (.keep (.keep .refl)))))))))) ?_
   simp only [List.nil_append]
   generalize (iu (y 10)).1 = q15
   generalize (iu (y 10)).2 = c15
   refine (Qs)<|(Q0)<|(rz)<|(Vc)<|(Ql) ?_
   refine aj (SP h bf pp pl cp pt tr ct pd nd cd pk ck R hP hT hcp hB hBt hpl htl Rk hRk hf hs q n c hn hcap s.P hPl p hp yv hyh q15 c15 (aa.fa (Dt.getD s.a 0) ((Dt.drop (s.a + 1)).take nr) s.A back) (by rw [hUl]; omega) (aa.uV ..) (Row U5 q15 nr c15 (aa.fa (Dt.getD s.a 0) ((Dt.drop (s.a + 1)).take nr) s.A back)) (fun _ _ hh => by rw [hUl]; exact hh.rd) (by rw [hUl]; exact aa.xU (by omega) (by omega) hnr) nr hUl hr) V.NU  rfl (.cons c9 (.cons c9 (.cons c9 (.cons ig (.cons c9 .nil))))) rfl ?_
   rintro _ _ ⟨rfl, P2, hP2, rfl⟩
   refine rO TT 18 rfl ?_
   (exact af (G := [ai bf 90 [.int .i64 h.w, .int .i64 h.h, .int .i64 h.dep, .int .i64 h.ar, .bool h.aZ, .slice pp pl.length cp, .slice pt tr.length ct, .slice pd nd cd, .slice pk (aa.aQ h tr).length ck], Row (aD 62 .u16) q n c P2, Rk, Rb, R]) (ez rfl rfl) (.inl ⟨aa.KP hyh hk4 hr hres, rfl, P2, hP2, rfl⟩) (sub (fp (.cons bg (.cons aw .nil))) mw))
  ·refine (Qa) ?_
   have hyh : (yv : Int) < p.h := by omega
   have hya : (yv + 1) * (1 + nr) ≤ p.h.toNat * (1 + nr) := Nat.mul_le_mul_right _ (by omega)
   rw [Nat.add_mul, Nat.one_mul] at hya
   have hKD : U5.g (Dt.drop s.a) 0 = (Dt.getD s.a 0) := aa.fE Dt s.a 0
   have hKB : 0 ≤ U5.g (Dt.drop s.a) 0 ∧ U5.g (Dt.drop s.a) 0 < 256 := hKD ▸ hDB.get _
   have hdl : (Dt.drop s.a).length = Dt.length - s.a := List.length_drop
   have hL1l : ((Dt.drop (s.a + 1)).take nr).length = nr := by rw [List.length_take, List.length_drop]; omega
   have hUl : (aa.fa (Dt.getD s.a 0) ((Dt.drop (s.a + 1)).take nr) s.A back).length = nr := (aa.uT ..).trans hL1l
   have hS1 : ∀ w0 h, Rb w0 h → aF U5 (dq s.pz 1 s.cz 1) nr ((Dt.drop (s.a + 1)).take nr) w0 h := fun w0 h hh => by have := kK (cap := 0) (fU (c := U5) hz hdl 1 s.cz (by omega) hcz) nr (by omega) w0 h hh; rwa [List.drop_drop] at this
   refine jD [pz 0 [] [3], pz 1 [0] [], pz 3 [1] [], pz 7 [2] [], pz 0 [] [3], pz 0 [] [11], pz 32 [5] [], pz 112 [4, 6] [], pz 0 [] [13], pz 0 [] [12], pz 1023 [3, 7, 8, 9] [], pz 2047 [10] [], pz 4095 [11] [], pz 4095 [11] [], pz 8191 [12] [], pz 32767 [13] []] [⟨fun y => Rb, none, none, [1, 2, 10]⟩, ⟨fun y => Row U5 s.pa s.na s.ca s.A, none, none, [10]⟩, ⟨fun y => ai b5 26 [.int .i64 h.w, .int .i64 h.h, .slice q n c], none, none, []⟩, ⟨fun y => ai b6 145 [.int .i64 p.x, .int .i64 p.y, .int .i64 p.dx, .int .i64 p.dy, .int .i64 p.w, .int .i64 p.h], none, none, []⟩, ⟨fun y => ai bf 90 [.int .i64 h.w, .int .i64 h.h, .int .i64 h.dep, .int .i64 h.ar, .bool h.aZ, .slice pp pl.length cp, .slice pt tr.length ct, .slice pd nd cd, .slice pk (aa.aQ h tr).length ck], none, none, []⟩, ⟨fun y => Row (aD 62 .u16) q n c s.P, none, none, []⟩, ⟨fun y => Rk, none, none, []⟩, ⟨fun y => R, none, none, []⟩, ⟨fun y => Row U5 (iu (y 10)).1 nr (iu (y 10)).2 (aa.fa (Dt.getD s.a 0) ((Dt.drop (s.a + 1)).take nr) s.A back), some 10, none, []⟩] F V.mixed (by kernel_rfl) rfl (fun _ => .refl _) (aP _ (aP _ (aP _ (aP _ (aP _ (aP _ (aP _ (aP _ (cT _ rfl (by intro y y2 h; simp only [h 10 (.inl rfl)]) ft))))))))) ?_
   refine nM ?_
   refine nR (fun y FF hA => xI V.bN (by exact bM hz aB)) ?_
   refine nR (fun y FF hA => xL V.s5 (by exact bM hz aB)) ?_
   refine nV (fun y hA L => cY (v := .int .i64 (Dt.getD s.a 0)) (df V.u5 Tryz.underlying3 rfl (aa.BH hKB)) (congrArg (Value.int .i64) hKD)) ?_
   iterate 2 refine nM ?_
   refine (Nr)<|(ND) ?_
   iterate 2 refine nM ?_
   refine (UJ) ?_
   refine (Vf) ?_
   refine (N2) ?_
   refine nV (fun y hA L => dQ rfl rfl) ?_
   refine (Vj) ?_
   refine nA ?_
   refine (Qb) ?_
   intro y hA
   clear hA
   refine bj ?_
   refine bE [(0, .pointer (some ⟨bf, 0, none⟩)), (3, .slice s.pz (Dt.length - s.a) s.cz), (5, .pointer (some ⟨b5, 0, none⟩)), (6, .pointer (some ⟨b6, 0, none⟩)), (11, .int .i64 (nr : Int)), (12, .int .i64 (back : Int)), (14, .int .i64 (yv : Int)), (15, .slice (iu (y 10)).1 nr (iu (y 10)).2), (16, .bool true), (37, .int .i64 p.h), (38, .int .i64 (yv : Int))] (.cons (d := 0) rfl (.cons (d := 3) rfl (.cons (d := 5) rfl (.cons (d := 6) rfl (.cons (d := 11) rfl (.cons (d := 12) rfl (.cons (d := 14) rfl (.cons (d := 15) rfl (.cons (d := 16) rfl (.cons (d := 37) rfl (.cons (d := 38) rfl (.nil _)))))))))))) ?_
   refine bo (M := Rb :: Row U5 s.pa s.na s.ca s.A :: ai b5 26 [.int .i64 h.w, .int .i64 h.h, .slice q n c] :: ai b6 145 [.int .i64 p.x, .int .i64 p.y, .int .i64 p.dx, .int .i64 p.dy, .int .i64 p.w, .int .i64 p.h] :: ai bf 90 [.int .i64 h.w, .int .i64 h.h, .int .i64 h.dep, .int .i64 h.ar, .bool h.aZ, .slice pp pl.length cp, .slice pt tr.length ct, .slice pd nd cd, .slice pk (aa.aQ h tr).length ck] :: Row (aD 62 .u16) q n c s.P :: Rk :: R :: Row U5 (iu (y 10)).1 nr (iu (y 10)).2 (aa.fa (Dt.getD s.a 0) ((Dt.drop (s.a + 1)).take nr) s.A back) :: F) (fun _ _ h => h) ?_
   refine bo (sub .nil (.keep (.skip (.keep (.keep (.keep (.keep (.keep (.keep (.keep .refl)))))))))) ?_
   simp only [List.nil_append]
   generalize (iu (y 10)).1 = q15
   generalize (iu (y 10)).2 = c15
   refine (Qs)<|(Q0)<|(rz)<|(Vc)<|(Ql) ?_
   refine aj (Pa h bf pp pl cp pt tr ct pd nd cd pk ck R hP hT hcp hB hBt hpl htl Rk hRk hf hs q n c hn hcap s.P hPl p hp yv hyh q15 c15 (aa.fa (Dt.getD s.a 0) ((Dt.drop (s.a + 1)).take nr) s.A back) (by rw [hUl]; omega) (aa.uV ..) (Row U5 q15 nr c15 (aa.fa (Dt.getD s.a 0) ((Dt.drop (s.a + 1)).take nr) s.A back)) (fun _ _ hh => by rw [hUl]; exact hh.rd) (by rw [hUl]; exact aa.xU (by omega) (by omega) hnr) nr hUl P2 hr) V.NU  rfl (.cons c9 (.cons c9 (.cons c9 (.cons ig (.cons c9 .nil))))) rfl ?_
   rintro _ _ ⟨hP2, rfl, rfl⟩
   refine (Qd)<|(tl) ?_
   refine rR TT 3 rfl<|oR (cY (v := .int .i64 ((nr + 1 : Nat) : Int)) (eA (r := 1 + (nr : Int)) rfl rfl wI) (congrArg (Value.int .i64) (by omega)))<|oR (eb (nr + 1) (Dt.length - s.a) s.cz V.bN rfl ⟨_, rfl⟩ ⟨rfl, rfl⟩ rfl (by omega) (by omega) (by omega))<|rR TT 2 rfl<|Rg.dh<|Nt TT 6 rfl (by omega) ?_
   rw [show Dt.length - s.a - (nr + 1) = Dt.length - (s.a + 1 + nr) from by omega]
   exact j2 (yv + 1) ⟨s.a + 1 + nr, dq s.pz (nr + 1) s.cz 1, s.cz - (nr + 1), q15, nr, c15, (aa.fa (Dt.getD s.a 0) ((Dt.drop (s.a + 1)).take nr) s.A back), P2⟩ ⟨⟨by omega, by show s.a + 1 + nr = _; rw [Nat.add_mul, Nat.one_mul]; omega, hP2, hUl, .inr rfl, aa.uV .., (fun w0 h hh => by have := fU (c := U5) hz hdl (nr + 1) s.cz (by omega) hcz w0 h hh; rw [List.drop_drop] at this; rwa [show Dt.length - s.a - (nr + 1) = Dt.length - (s.a + 1 + nr) by omega, show s.a + (nr + 1) = s.a + 1 + nr by omega] at this), by show Dt.length - (s.a + 1 + nr) ≤ s.cz - (nr + 1); omega, aa.Ks hyh hk4 hr hres⟩, by omega⟩ (eG (bB ln)) (sub (.cons jM (.cons c9 (.cons ig (.cons ig (lZ .nil))))) ak)
 ·refine rC TT 13 rfl ?_
  have hyE : yv = p.h.toNat := by omega
  exact af (ez rfl rfl) (.inr ⟨s.a, s.P, s.pz, s.cz, aa.Kg (by omega) hres, hPl, by rw [ha, hyE], hz, hcz, rfl, rfl⟩) (sub (.cons ig (.cons ig (.cons ig (aq (.cons c9 .nil))))) mw)
end Go.Proofs.YtmaiakpjgomnpaaGreat
namespace Go.Proofs.YtmaiakpjgomnpaaGreat
open Go.Sl
theorem V.Pm : ay Tryz.prog 17 = true := by kernel_rfl
theorem V.VY : ay Tryz.prog 37 = true := by kernel_rfl
theorem V.Y7 : ay Tryz.prog 38 = true := by kernel_rfl
theorem V.Yf : ay Tryz.prog 39 = true := by kernel_rfl
theorem V.IU : ay Tryz.prog 40 = true := by kernel_rfl
theorem V.Wa : ay Tryz.prog 41 = true := by kernel_rfl
theorem V.YW : ay Tryz.prog 42 = true := by kernel_rfl
theorem V.YU : ay Tryz.prog 81 = true := by kernel_rfl
theorem V.YI : ay Tryz.prog 82 = true := by kernel_rfl
theorem V.Yk : ay Tryz.prog 83 = true := by kernel_rfl
theorem V.X8 : ay Tryz.prog 84 = true := by kernel_rfl
theorem V.YF : ay Tryz.prog 85 = true := by kernel_rfl
theorem V.WK : ay Tryz.prog 86 = true := by kernel_rfl
end Go.Proofs.YtmaiakpjgomnpaaGreat

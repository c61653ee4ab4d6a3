/- Walks of functions that the law reaches, and what they lean on; no conditions. -/
import Derived.Test.YtmbljkghkcgejaaGreatM30
import Derived.Test.YtmbljkghkcgejaaGreatSl22
import Derived.KernelRfl
import Derived.Test.YtmbljkghkcgejaaGreatM44
import Derived.Test.YtmbljkghkcgejaaGreatM35
import Derived.Test.YtmbljkghkcgejaaGreatM33
import Derived.Test.YtmbljkghkcgejaaGreatM39
set_option linter.unusedVariables false
set_option linter.unusedSimpArgs false
set_option maxRecDepth 100000
namespace Go.Proofs.YtmbljkghkcgejaaGreat
open Go.Sl 
theorem TTZfA : okT Tryz.prog ⟨[22, 77], [(106, 0, 0), (106, 1, 1), (106, 2, 2)]⟩ = true := by kernel_rfl
attribute [local irreducible] List.replicate DefP.hs DefP.x3 DefP.alkGo DefP.findGo DefP.putP DefP.findP DefP.toks DefP.tokGo
theorem f_hash (bf bh bn : Nat) (p : Option Addr) (c : Nat) (B : List Int) (R : HProp) (hR : ∀ w0 h, R w0 h → RdR U5 p B.length B w0 h) (hB : BitP.Byt B) (hl : B.length ≤ 4194304) (a : Nat) (ha : a + 3 ≤ B.length) : Ctr Tryz.prog 86 [.pointer (some ⟨bf, 0, none⟩), .int .i64 (a : Int)] [Cel bf 106 [.slice p B.length c, .slice (some ⟨bh, 0, none⟩) 8192 8192, .slice (some ⟨bn, 0, none⟩) B.length B.length], R] (Ret fun v G => v = .int .i64 (DefP.hs B a) ∧ G = [Cel bf 106 [.slice p B.length c, .slice (some ⟨bh, 0, none⟩) 8192 8192, .slice (some ⟨bn, 0, none⟩) B.length B.length], R]) := by
  refine spec_of [(0, _), (1, _)] Tryz.func86 rfl Tryz.ntmps86 rfl rfl ?_
  intro w0 F
  refine rT TTZfA 6 rfl ?_
  refine w_rd V.mixed (by kernel_rfl) ?_
  refine rR TTZfA 3 rfl ?_
  refine oR (v_load V.s22 rfl mm0 rfl) ?_
  refine oR (v_move rfl) ?_
  refine oR (xI V.sl22 (by exact rdH hR mm1)) ?_
  refine oR (xL V.s5 (by exact rdH hR mm1)) ?_
  refine oR (v_conv V.u5 Tryz.underlying48 rfl (DefP.wrap32b (hB.get _) (gE (a) (by omega)))) ?_
  refine oR (v_shl rfl rfl (by decide) rfl) ?_
  refine rR TTZfA 3 rfl ?_
  refine oR (v_load V.s22 rfl mm0 rfl) ?_
  refine rRs TTZfA 2 rfl (by omega) ?_
  refine oR (xI V.sl22 (by exact rdH hR mm1)) ?_
  refine oR (xL V.s5 (by exact rdH hR mm1)) ?_
  refine oR (v_conv V.u5 Tryz.underlying48 rfl (DefP.wrap32b (hB.get _) (gE (a + 1) (by omega)))) ?_
  refine oR (v_shl rfl rfl (by decide) rfl) ?_
  refine oR (v_or rfl rfl rfl) ?_
  refine rR TTZfA 3 rfl ?_
  refine oR (v_load V.s22 rfl mm0 rfl) ?_
  refine rRs TTZfA 2 rfl (by omega) ?_
  refine oR (xI V.sl22 (by exact rdH hR mm1)) ?_
  refine oR (xL V.s5 (by exact rdH hR mm1)) ?_
  refine oR (v_conv V.u5 Tryz.underlying48 rfl (DefP.wrap32b (hB.get _) (gE (a + 2) (by omega)))) ?_
  refine oR (v_to (v := .int .u32 (DefP.x3 (B.getD a 0) (B.getD (a + 1) 0) (B.getD (a + 2) 0))) (v_or rfl rfl rfl) (DefP.x3_eq _ _ _)) ?_
  refine oR (v_assign rfl) ?_
  refine Rg.o_nil ?_
  refine rN TTZfA 4 rfl ?_
  refine oV (v_mul rfl rfl rfl) ?_
  refine oV (v_to (v := .int .u32 (DefP.hs B a)) (v_shr rfl rfl (by decide) rfl) (DefP.hs_eq _ _)) ?_
  refine oV (v_conv V.u48 Tryz.underlying3 rfl (wrapI (by have := DefP.hs_in B a; omega) (by have := DefP.hs_in B a; omega))) ?_
  refine rO TTZfA 4 rfl ?_
  exact ret_ok (res1 rfl) ⟨rfl, rfl⟩ (sub (rz2 .nil) dd0)
set_option maxHeartbeats 2000000 in
theorem f_alike (bf bh bn : Nat) (p : Option Addr) (c : Nat) (B : List Int) (R : HProp) (hR : ∀ w0 h, R w0 h → RdR U5 p B.length B w0 h) (hB : BitP.Byt B) (hl : B.length ≤ 4194304) (o a : Nat) (ho : o < a) (ha : a < B.length) : Ctr Tryz.prog 87 [.pointer (some ⟨bf, 0, none⟩), .int .i64 (o : Int), .int .i64 (a : Int)] [Cel bf 106 [.slice p B.length c, .slice (some ⟨bh, 0, none⟩) 8192 8192, .slice (some ⟨bn, 0, none⟩) B.length B.length], R] (Ret fun v G => v = .int .i64 (DefP.alk B o a : Int) ∧ G = [Cel bf 106 [.slice p B.length c, .slice (some ⟨bh, 0, none⟩) 8192 8192, .slice (some ⟨bn, 0, none⟩) B.length B.length], R]) := by
  refine spec_of [(0, _), (1, _), (2, _)] Tryz.func87 rfl Tryz.ntmps87 rfl rfl ?_
  intro w0 F
  refine rT TTZfA 12 rfl ?_
  refine w_loop1 (fun (n : Nat) => [(0, .pointer (some ⟨bf, 0, none⟩)), (1, .int .i64 (o : Int)), (2, .int .i64 (a : Int)), (7, .int .i64 (n : Int))]) (fun (n : Nat) => Cel bf 106 [.slice p B.length c, .slice (some ⟨bh, 0, none⟩) 8192 8192, .slice (some ⟨bn, 0, none⟩) B.length B.length] :: R :: F) (fun (n : Nat) => n ≤ 258 ∧ DefP.alk B o a = DefP.alkGo B o a (258 - n) n ∧ a + n ≤ B.length) (fun (n : Nat) => 258 - n) (i1 (0) ?_ (lc4 ln) (sub (rz2 .nil) dd0)) ?_
  ·
    exact ⟨Nat.zero_le _, rfl, by omega⟩
  intro n
  rintro ⟨hn, hk, hr⟩
  refine rL TTZfA 2 rfl ?_
  refine w_rd V.mixed (by kernel_rfl) ?_
  refine rR TTZfA 3 rfl ?_
  refine Rg.o_boolD 10 rfl (fun h10 => ?_) (fun h10 => ?_)
  ·
    refine rRs TTZfA 6 rfl (by omega) ?_
    refine Rg.o_want rfl ?_
    refine oR (v_load V.s22 rfl mm0 rfl) ?_
    refine rR TTZfA 4 rfl ?_
    refine Rg.o_boolD 21 rfl (fun h21 => ?_) (fun h21 => ?_)
    ·
      refine rR TTZfA 3 rfl ?_
      refine Rg.o_want rfl ?_
      refine oR (v_load V.s22 rfl mm0 rfl) ?_
      refine rRs TTZfA 3 rfl (by omega) ?_
      refine Rg.o_want rfl ?_
      refine oR (xI V.sl22 (by exact rdH hR mm1)) ?_
      refine Rg.o_want rfl ?_
      refine oR (xL V.s5 (by exact rdH hR mm1)) ?_
      refine rR TTZfA 3 rfl ?_
      refine Rg.o_want rfl ?_
      refine oR (v_load V.s22 rfl mm0 rfl) ?_
      refine rRs TTZfA 3 rfl (by omega) ?_
      refine Rg.o_want rfl ?_
      refine oR (xI V.sl22 (by exact rdH hR mm1)) ?_
      refine Rg.o_want rfl ?_
      refine oR (xL V.s5 (by exact rdH hR mm1)) ?_
      refine rR TTZfA 2 rfl ?_
      refine Rg.o_nil ?_
      refine thn_n ?_
      refine w_condD rfl (fun h41 => ?_) (fun h41 => ?_)
      ·
        refine rCs TTZfA 9 rfl (by omega) ?_
        have hc : a + n < B.length ∧ B.getD (o + n) 0 = B.getD (a + n) 0 := ⟨by omega, by rw [← gE (c := U5) (e := (o : Int) + (n : Int)) _ (by omega), ← gE (c := U5) (e := (a : Int) + (n : Int)) _ (by omega)]; assumption⟩
        refine j1 (n + 1) ?_ (lc4 ln) (sub (rz2 .nil) dd0)
        exact ⟨⟨by omega, hk.trans (DefP.alkGo_next (by omega) hc), by omega⟩, by omega⟩
      ·
        refine rC TTZfA 6 rfl ?_
        have hz : DefP.alk B o a = n := by
          rw [hk]
          refine DefP.alkGo_end2 (by omega) (fun h1 => ?_)
          (rw [← gE (c := U5) (e := (o : Int) + (n : Int)) _ (by omega), ← gE (c := U5) (e := (a : Int) + (n : Int)) _ (by omega)] at h1; exact absurd h1.2.2 (by assumption))
        refine rC TTZfA 6 rfl ?_
        exact ret_ok (res1 rfl) ⟨by rw [hz], rfl⟩ (sub (rz2 .nil) dd0)
    ·
      refine rR TTZfA 20 rfl ?_
      refine Rg.o_nil ?_
      refine rN TTZfA 8 rfl ?_
      have hz : DefP.alk B o a = n := by
        rw [hk]
        refine DefP.alkGo_end2 (by omega) (fun h1 => ?_)
        omega
      refine rC TTZfA 6 rfl ?_
      exact ret_ok (res1 rfl) ⟨by rw [hz], rfl⟩ (sub (rz2 .nil) dd0)
  ·
    refine rR TTZfA 31 rfl ?_
    refine Rg.o_nil ?_
    refine rN TTZfA 8 rfl ?_
    have hz : DefP.alk B o a = n := by
      rw [hk]
      refine DefP.alkGo_end2 (by omega) (fun h1 => ?_)
      omega
    refine rC TTZfA 6 rfl ?_
    exact ret_ok (res1 rfl) ⟨by rw [hz], rfl⟩ (sub (rz2 .nil) dd0)
theorem f_put (bf bh bn : Nat) (p : Option Addr) (c : Nat) (B : List Int) (R : HProp) (hR : ∀ w0 h, R w0 h → RdR U5 p B.length B w0 h) (hB : BitP.Byt B) (hl : B.length ≤ 4194304) (f : DefP.Fd) (a : Nat) (hf : DefP.Fok B a f) (ha : a < B.length) : Ctr Tryz.prog 72 [.pointer (some ⟨bf, 0, none⟩), .int .i64 (a : Int)] [Cel bf 106 [.slice p B.length c, .slice (some ⟨bh, 0, none⟩) 8192 8192, .slice (some ⟨bn, 0, none⟩) B.length B.length], Row I3 (some ⟨bh, 0, none⟩) 8192 8192 f.hd, Row I3 (some ⟨bn, 0, none⟩) B.length B.length f.nx, R] (Ret fun v G => v = .tuple #[] ∧ G = [Cel bf 106 [.slice p B.length c, .slice (some ⟨bh, 0, none⟩) 8192 8192, .slice (some ⟨bn, 0, none⟩) B.length B.length], Row I3 (some ⟨bh, 0, none⟩) 8192 8192 (DefP.putP B f a).hd, Row I3 (some ⟨bn, 0, none⟩) B.length B.length (DefP.putP B f a).nx, R]) := by
  refine spec_of [(0, _), (1, _)] Tryz.func72 rfl Tryz.ntmps72 rfl rfl ?_
  intro w0 F
  have hh := DefP.hs_in B a
  refine rTs TTZfA 8 rfl (by omega) ?_
  refine oV (v_load V.s22 rfl mm0 rfl) ?_
  refine rO TTZfA 4 rfl ?_
  refine w_condD rfl (fun h12 => ?_) (fun h12 => ?_)
  ·
    rw [DefP.putP_no (f := f) (by omega : B.length < a + 3)]
    refine rC TTZfA 2 rfl ?_
    exact ret_ok res0 ⟨rfl, rfl⟩ (sub (rz4 .nil) dd0)
  ·
    obtain ⟨e1, e2⟩ := DefP.putP_yes (f := f) (by omega : ¬ B.length < a + 3)
    rw [e1, e2]
    refine rC TTZfA 6 rfl ?_
    refine o_call (f_hash bf bh bn p c B R hR hB hl a (by omega)) V.b86  rfl (rz1 (.cons rr2 .nil)) rfl ?_
    rintro _ _ ⟨rfl, rfl⟩
    refine rO TTZfA 4 rfl ?_
    refine w_re V.mixed (by kernel_rfl) ?_
    refine rR TTZfA 3 rfl ?_
    refine oR (v_load V.s77 rfl mm0 rfl) ?_
    refine rR TTZfA 4 rfl ?_
    refine oR (v_load V.s77 rfl mm0 rfl) ?_
    refine oR (v_move rfl) ?_
    refine oR (xI V.sl77 (own mm2)) ?_
    refine oR (xL V.s3 (own mm2)) ?_
    refine oR (xI V.sl77 (own mm3)) ?_
    refine Rg.o_nil ?_
    refine o_eff (r_store (c := (I3)) (_) V.s3 rfl rfl rfl (by exact pp3) (by omega) (by omega) rfl rfl) ?_
    refine rO TTZfA 6 rfl ?_
    refine oV (v_load V.s77 rfl mm0 rfl) ?_
    refine rO TTZfA 2 rfl ?_
    refine oV (xI V.sl77 (own mm2)) ?_
    refine o_eff (r_store (c := (I3)) (_) V.s3 rfl rfl rfl (by exact pp2) (by omega) (by omega) rfl rfl) ?_
    refine o_nil ?_
    exact end_ok res0 ⟨rfl, rfl⟩ (sub (rz1 (.cons rr1 (.cons rr1 (.cons rr0 .nil)))) dd0)
set_option maxHeartbeats 2000000 in
theorem f_find (bf bh bn : Nat) (p : Option Addr) (c : Nat) (B : List Int) (R : HProp) (hR : ∀ w0 h, R w0 h → RdR U5 p B.length B w0 h) (hB : BitP.Byt B) (hl : B.length ≤ 4194304) (f : DefP.Fd) (a : Nat) (hf : DefP.Fok B a f) (ha : a < B.length) : Ctr Tryz.prog 71 [.pointer (some ⟨bf, 0, none⟩), .int .i64 (a : Int)] [Cel bf 106 [.slice p B.length c, .slice (some ⟨bh, 0, none⟩) 8192 8192, .slice (some ⟨bn, 0, none⟩) B.length B.length], Row I3 (some ⟨bh, 0, none⟩) 8192 8192 f.hd, Row I3 (some ⟨bn, 0, none⟩) B.length B.length f.nx, R] (Ret fun v G => v = .tuple #[.int .i64 (DefP.findP B f a).1, .int .i64 (DefP.findP B f a).2] ∧ G = [Cel bf 106 [.slice p B.length c, .slice (some ⟨bh, 0, none⟩) 8192 8192, .slice (some ⟨bn, 0, none⟩) B.length B.length], Row I3 (some ⟨bh, 0, none⟩) 8192 8192 f.hd, Row I3 (some ⟨bn, 0, none⟩) B.length B.length f.nx, R]) := by
  refine spec_of [(0, _), (1, _)] Tryz.func71 rfl Tryz.ntmps71 rfl rfl ?_
  intro w0 F
  have hh := DefP.hs_in B a
  refine rTs TTZfA 14 rfl (by omega) ?_
  refine oV (v_load V.s22 rfl mm0 rfl) ?_
  refine rO TTZfA 4 rfl ?_
  refine w_condD rfl (fun h17 => ?_) (fun h17 => ?_)
  ·
    refine rC TTZfA 8 rfl ?_
    have e : DefP.findP B f a = (0, 0) := by exact DefP.find_no (by omega)
    rw [e]
    exact ret_ok (res2 rfl rfl) ⟨rfl, rfl⟩ (sub (rz4 .nil) dd0)
  ·
    refine rC TTZfA 9 rfl ?_
    refine wN [pz 0 [] [0], pz 1 [0] [], pz 3 [1] [], pz 7 [2] [], pz 0 [] [0], pz 0 [] [1], pz 48 [4, 5] [], pz 127 [3, 6] [], pz 255 [7] [], pz 511 [8] []] [⟨fun y => Cel bf 106 [.slice p B.length c, .slice (some ⟨bh, 0, none⟩) 8192 8192, .slice (some ⟨bn, 0, none⟩) B.length B.length], none, none, [3, 6]⟩, ⟨fun y => Row I3 (some ⟨bh, 0, none⟩) 8192 8192 f.hd, none, none, [7, 8]⟩, ⟨fun y => Row I3 (some ⟨bn, 0, none⟩) B.length B.length f.nx, none, none, []⟩, ⟨fun y => R, none, none, [6]⟩] F V.mixed ?_
    refine nM ?_
    refine nN ?_
    refine nG V.f106_1 ?_
    refine nR (fun y FF hA => v_load V.s77 rfl mm0 rfl) ?_
    iterate 2 refine nM ?_
    refine nE (fun y FF hA => st_callN (Post := [Cel bf 106 [.slice p B.length c, .slice (some ⟨bh, 0, none⟩) 8192 8192, .slice (some ⟨bn, 0, none⟩) B.length B.length], R]) (f_hash bf bh bn p c B R hR hB hl a (by omega)) V.b86 rfl (rz2 .nil) (fun v G h => by rcases h with ⟨rfl, rfl⟩; exact ⟨rfl, .refl _⟩)) ?_
    refine nR (fun y FF hA => xI V.sl77 (own mm0)) ?_
    refine nR (fun y FF hA => xL V.s3 (own mm0)) ?_
    refine nA ?_
    refine net_nil ?_
    intro y hA
    clear hA
    refine thn_n ?_
    refine w_keep _ (.cons (d := 0) rfl (.cons (d := 1) rfl (.cons (d := 6) rfl (.cons (d := 7) rfl (.cons (d := 8) rfl (.nil _)))))) ?_
    refine w_sub (M := Cel bf 106 [.slice p B.length c, .slice (some ⟨bh, 0, none⟩) 8192 8192, .slice (some ⟨bn, 0, none⟩) B.length B.length] :: Row I3 (some ⟨bh, 0, none⟩) 8192 8192 f.hd :: Row I3 (some ⟨bn, 0, none⟩) B.length B.length f.nx :: R :: F) (fun _ _ h => h) ?_
    refine rC TTZfA 2 rfl ?_
    have hh0 := hf.h (DefP.hs B a).toNat (by omega)
    have hg : I3.g f.hd (DefP.hs B a) = f.hd.getD (DefP.hs B a).toNat 0 := rfl
    have hs0 := DefP.find_go (f := f) (by omega : ¬ B.length < a + 3)
    have hhl := hf.hl
    refine rC TTZfA 5 rfl ?_
    refine w_loop4 (fun (k : Nat) (old : Int) (n : Int) (far : Int) => [(0, .pointer (some ⟨bf, 0, none⟩)), (1, .int .i64 (a : Int)), (6, .int .i64 n), (7, .int .i64 far), (8, .int .i64 old), (27, .int .i64 (k : Int))]) (fun (k : Nat) (old : Int) (n : Int) (far : Int) => Cel bf 106 [.slice p B.length c, .slice (some ⟨bh, 0, none⟩) 8192 8192, .slice (some ⟨bn, 0, none⟩) B.length B.length] :: Row I3 (some ⟨bh, 0, none⟩) 8192 8192 f.hd :: Row I3 (some ⟨bn, 0, none⟩) B.length B.length f.nx :: R :: F) (fun (k : Nat) (old : Int) (n : Int) (far : Int) => k ≤ 24 ∧ DefP.findP B f a = DefP.findGo B f.nx a (24 - k) old n far ∧ -1 ≤ old ∧ old < a) (fun (k : Nat) (old : Int) (n : Int) (far : Int) => 24 - k) (i4 (0) (_) (_) (_) ?_ (lc1 (lc5 ln)) (sub (rz4 .nil) dd0)) ?_
    ·
      exact ⟨Nat.zero_le _, hs0, hh0⟩
    intro k old n far
    rintro ⟨hk, he, h0, h1⟩
    refine rL TTZfA 6 rfl ?_
    refine w_condD rfl (fun h28 => ?_) (fun h28 => ?_)
    ·
      refine rC TTZfA 10 rfl ?_
      refine o_boolD 31 rfl (fun h31 => ?_) (fun h31 => ?_)
      ·
        refine rO TTZfA 24 rfl ?_
        have e : DefP.findP B f a = (n, far) := by exact he.trans (DefP.findGo_stop (by omega) (.inl (by assumption)))
        rw [e]
        exact ret_ok (res2 rfl rfl) ⟨rfl, rfl⟩ (sub (rz4 .nil) dd0)
      ·
        refine rOs TTZfA 7 rfl (by omega) ?_
        refine w_condD rfl (fun h36 => ?_) (fun h36 => ?_)
        ·
          refine rC TTZfA 16 rfl ?_
          have e : DefP.findP B f a = (n, far) := by exact he.trans (DefP.findGo_stop (by omega) (.inr (by omega)))
          rw [e]
          exact ret_ok (res2 rfl rfl) ⟨rfl, rfl⟩ (sub (rz4 .nil) dd0)
        ·
          refine rC TTZfA 4 rfl ?_
          obtain ⟨o, rfl⟩ : ∃ o : Nat, old = (o : Int) := ⟨old.toNat, by omega⟩
          have hnx := hf.x o (by omega)
          have hgx : I3.g f.nx (o : Int) = f.nx.getD o 0 := rfl
          have hnl := hf.nl
          refine rC TTZfA 4 rfl ?_
          refine o_call (f_alike bf bh bn p c B R hR hB hl o a (by omega) ha) V.b87  rfl (rz1 (.cons rr2 .nil)) rfl ?_
          rintro _ _ ⟨rfl, rfl⟩
          refine rO TTZfA 10 rfl ?_
          refine w_condD rfl (fun h43 => ?_) (fun h43 => ?_)
          ·
            refine rCs TTZfA 13 rfl (by omega) ?_
            refine oV (v_load V.s77 rfl mm0 rfl) ?_
            refine oV (v_move rfl) ?_
            refine oV (xI V.sl77 (own mm3)) ?_
            refine oV (xL V.s3 (own mm3)) ?_
            refine rOs TTZfA 8 rfl (by omega) ?_
            exact j4 (k + 1) _ _ _ ⟨⟨by omega, he.trans (DefP.findGo_yes (by omega) (by assumption) (by omega) (by assumption)), by omega, by omega⟩, by omega⟩ (lc1 (lc5 ln)) (sub (rz1 (.cons rr1 (.cons rr1 (.cons rr0 .nil)))) dd0)
          ·
            refine rC TTZfA 6 rfl ?_
            refine oV (v_load V.s77 rfl mm0 rfl) ?_
            refine oV (v_move rfl) ?_
            refine oV (xI V.sl77 (own mm3)) ?_
            refine oV (xL V.s3 (own mm3)) ?_
            refine rOs TTZfA 8 rfl (by omega) ?_
            exact j4 (k + 1) _ _ _ ⟨⟨by omega, he.trans (DefP.findGo_no (by omega) (by assumption) (by omega) (by assumption)), by omega, by omega⟩, by omega⟩ (lc1 (lc5 ln)) (sub (rz1 (.cons rr1 (.cons rr1 (.cons rr0 .nil)))) dd0)
    ·
      refine rC TTZfA 14 rfl ?_
      have e : DefP.findP B f a = (n, far) := by exact he.trans (DefP.findGo_end (by omega))
      rw [e]
      exact ret_ok (res2 rfl rfl) ⟨rfl, rfl⟩ (sub (rz4 .nil) dd0)
theorem fill_tk (t : DefP.Tok) : Instr.fill (fun i => some (i * 3, 3)) ((List.replicate 1 [.int .i64 0, .int .i64 0, .int .i64 0]).flatten.toArray) [(0, .agg #[.int .i64 t.lit, .int .i64 t.n, .int .i64 t.far])] = some ([t].flatMap TK.e).toArray := by simp [Instr.fill, Value.cells, List.replicate]
set_option maxHeartbeats 4000000 in
theorem f_tokens (p : Option Addr) (c : Nat) (B : List Int) (R : HProp) (hR : ∀ w0 h, R w0 h → RdR U5 p B.length B w0 h) (hB : BitP.Byt B) (hl : B.length ≤ 4194304) : Ctr Tryz.prog 58 [.slice p B.length c] [R] (Ret fun v G => ∃ q cq, v = .slice q (DefP.toks B).length cq ∧ G = [Row TK q (DefP.toks B).length cq (DefP.toks B), R]) := by
  refine spec_of [(0, _)] Tryz.func58 rfl Tryz.ntmps58 rfl rfl ?_
  intro w0 F
  refine rT TTZfA 6 rfl ?_
  refine w_net [pz 0 [] [0], pz 0 [] [], pz 0 [] [0], pz 4 [2] [], pz 12 [3] [], pz 31 [0, 1, 4] [], pz 63 [5] [], pz 127 [6] []] [⟨fun y => R, none, none, []⟩, ⟨fun y => Row (I3) (some ⟨(blk' (slP (y 1))), 0, none⟩) 8192 8192 (List.replicate 8192 (I3).d), some 1, none, []⟩, ⟨fun y => Row (I3) (some ⟨(blk' (slP (y 4))), 0, none⟩) B.length B.length (List.replicate B.length (I3).d), some 4, none, []⟩, ⟨fun y => Cel (ptB (y 6)) 106 [.slice p B.length c, .slice (some ⟨(blk' (slP (y 1))), 0, none⟩) 8192 8192, .slice (some ⟨(blk' (slP (y 4))), 0, none⟩) B.length B.length], some 6, none, []⟩] F V.mixed (by kernel_rfl) rfl (fun _ => .refl _) (locT_0 _ (locT_1 _ rfl (by intro y y2 h; simp only [h 1 (.inl rfl)]) (locT_1 _ rfl (by intro y y2 h; simp only [h 4 (.inl rfl)]) (locT_1 _ rfl (by intro y y2 h; simp only [h 1 (.inr (by decide)), h 4 (.inr (by decide)), h 6 (.inl rfl)]) locT_nil)))) ?_
  refine nM ?_
  refine net_new (fun y v => .slice (some ⟨blk' (slP v), 0, none⟩) 8192 8192) (fun y v => True) _ _ (fun y v => [Row (I3) (some ⟨(blk' (slP v)), 0, none⟩) 8192 8192 (List.replicate 8192 (I3).d)]) _ (fun y => rfl) (fun y => rfl) (fun y => rfl) (fun y => rfl) (fun y FF hA => st_newN ?_) (by intros; rfl) (by intros; rfl) (by intros; rfl) (by intro y y2 h; simp only [h 1 (.inl rfl)]) (by intro y y2 h; rfl) ?_
  · refine r_makeNX (by_ := 8) (k1 := .i64) (k2 := .i64) (zs := [.int .i64 0]) (i1 := 8192) (i2 := 8192) 8192 8192 (I3) ?_ ?_ ?_ ?_ ?_ ?_ ?_ ?_ ?_ ?_ ?_
    · decide
    · decide
    · exact V.sl77
    · exact V.z3
    · rfl
    · rfl
    · rfl
    · rfl
    · omega
    · omega
    · rfl
  refine nM ?_
  refine nV (fun y hA L => v_len (ty' := 0) Tryz.underlying22 rfl) ?_
  refine net_new (fun y v => .slice (some ⟨blk' (slP v), 0, none⟩) B.length B.length) (fun y v => True) _ _ (fun y v => [Row (I3) (some ⟨(blk' (slP v)), 0, none⟩) B.length B.length (List.replicate B.length (I3).d)]) _ (fun y => rfl) (fun y => rfl) (fun y => rfl) (fun y => rfl) (fun y FF hA => st_newN (r_makeNX B.length B.length (I3) rfl rfl V.sl77 V.z3 rfl rfl rfl rfl (by omega) (by omega) rfl)) (by intros; rfl) (by intros; rfl) (by intros; rfl) (by intro y y2 h; simp only [h 4 (.inl rfl)]) (by intro y y2 h; rfl) ?_
  refine net_pure _ (fun y => rfl) rfl rfl rfl (fun y hA L => st_v (v_to (v := .agg #[.slice p B.length c, .slice (some ⟨(blk' (slP (y 1))), 0, none⟩) 8192 8192, .slice (some ⟨(blk' (slP (y 4))), 0, none⟩) B.length B.length]) (v_build V.pl106 V.z106 rfl (cs := [_, _, _]) rfl) rfl) ⟨rfl, rfl⟩) (by intros; rfl) (by intro y y2 h; simp only [h 1 (.inr (by decide)), h 4 (.inr (by decide))]) ?_
  refine net_new (fun y v => .pointer (some ⟨ptB v, 0, none⟩)) (fun y v => True) _ _ (fun y v => [Cel (ptB v) 106 [.slice p B.length c, .slice (some ⟨(blk' (slP (y 1))), 0, none⟩) 8192 8192, .slice (some ⟨(blk' (slP (y 4))), 0, none⟩) B.length B.length]]) _ (fun y => rfl) (fun y => rfl) (fun y => rfl) (fun y => rfl) (fun y FF hA => st_allocN (x_boxN rfl rfl)) (by intros; rfl) (by intros; rfl) (by intros; rfl) (by intro y y2 h; simp only [h 1 (.inr (by decide)), h 4 (.inr (by decide)), h 6 (.inl rfl)]) (by intro y y2 h; rfl) ?_
  refine net_pure _ (fun y => rfl) rfl rfl rfl (fun y hA L => st_v (v_assign rfl) ⟨rfl, rfl⟩) (by intros; rfl) (by intro y y2 h; simp only [h 6 (.inr (by decide))]) ?_
  refine net_nil ?_
  intro y hA
  clear hA
  refine thn_n ?_
  refine w_keep [(0, .slice p B.length c), (3, .pointer (some ⟨(ptB (y 6)), 0, none⟩))] (.cons (d := 0) rfl (.cons (d := 3) rfl (.nil _))) ?_
  refine w_sub (M := R :: Row (I3) (some ⟨(blk' (slP (y 1))), 0, none⟩) 8192 8192 (List.replicate 8192 (I3).d) :: Row (I3) (some ⟨(blk' (slP (y 4))), 0, none⟩) B.length B.length (List.replicate B.length (I3).d) :: Cel (ptB (y 6)) 106 [.slice p B.length c, .slice (some ⟨(blk' (slP (y 1))), 0, none⟩) 8192 8192, .slice (some ⟨(blk' (slP (y 4))), 0, none⟩) B.length B.length] :: F) (fun _ _ h => h) ?_
  generalize (blk' (slP (y 1))) = b10
  generalize (blk' (slP (y 4))) = b13
  generalize (ptB (y 6)) = b15
  refine rC TTZfA 6 rfl ?_
  refine oV (v_load V.s77 rfl mm3 rfl) ?_
  refine rO TTZfA 5 rfl ?_
  rw [show List.replicate 8192 I3.d = List.replicate 0 (-1) ++ List.replicate (8192 - 0) 0 from by rw [List.replicate_zero, List.nil_append]]
  refine w_loop1 (fun (i : Nat) => [(0, .slice p B.length c), (3, .pointer (some ⟨b15, 0, none⟩)), (20, .int .i64 8192), (21, .int .i64 (i : Int))]) (fun (i : Nat) => Cel b15 106 [.slice p B.length c, .slice (some ⟨b10, 0, none⟩) 8192 8192, .slice (some ⟨b13, 0, none⟩) B.length B.length] :: Row I3 (some ⟨b10, 0, none⟩) 8192 8192 (List.replicate i (-1) ++ List.replicate (8192 - i) 0) :: Row I3 (some ⟨b13, 0, none⟩) B.length B.length (List.replicate B.length 0) :: R :: F) (fun (i : Nat) => i ≤ 8192) (fun (i : Nat) => 8192 - i) (i1 (0) ?_ (lc4 ln) (sub (.cons rr3 (.cons rr1 (.cons rr1 (rz1 .nil)))) dd0)) ?_
  ·
    exact Nat.zero_le _
  intro i
  rintro hi
  refine rL TTZfA 6 rfl ?_
  refine w_condD rfl (fun h22 => ?_) (fun h22 => ?_)
  ·
    refine rC TTZfA 14 rfl ?_
    refine oV (v_load V.s77 rfl mm0 rfl) ?_
    refine oV (v_move rfl) ?_
    refine oV (xI V.sl77 (own mm1)) ?_
    refine o_eff (r_store (c := (I3)) (_) V.s3 rfl rfl rfl (by exact pp1) (by omega) (by omega) rfl rfl) ?_
    refine rOs TTZfA 7 rfl (by omega) ?_
    rw [show ((i : Int)).toNat = i from rfl, DefP.rep_step (by omega)]
    refine j1 (i + 1) ?_ (lc4 ln) (sub (rz4 .nil) dd0)
    exact ⟨by omega, by omega⟩
  ·
    refine rC TTZfA 17 rfl ?_
    obtain rfl : i = 8192 := by omega
    rw [Nat.sub_self, List.replicate_zero, List.append_nil]
    refine w_add0 (Row TK none 0 0 []) (Row.nil _ _ _) ?_
    refine w_loop5 (fun (a : Nat) (f : DefP.Fd) (q : Option Addr) (cq : Nat) (l : List DefP.Tok) => [(0, .slice p B.length c), (3, .pointer (some ⟨b15, 0, none⟩)), (5, .slice q l.length cq), (6, .int .i64 (a : Int))]) (fun (a : Nat) (f : DefP.Fd) (q : Option Addr) (cq : Nat) (l : List DefP.Tok) => Row TK q l.length cq l :: Cel b15 106 [.slice p B.length c, .slice (some ⟨b10, 0, none⟩) 8192 8192, .slice (some ⟨b13, 0, none⟩) B.length B.length] :: Row I3 (some ⟨b10, 0, none⟩) 8192 8192 f.hd :: Row I3 (some ⟨b13, 0, none⟩) B.length B.length f.nx :: R :: F) (fun (a : Nat) (f : DefP.Fd) (q : Option Addr) (cq : Nat) (l : List DefP.Tok) => a ≤ B.length ∧ DefP.Fok B a f ∧ l ++ DefP.tokGo B (B.length - a) f a = DefP.toks B ∧ l.length ≤ a) (fun (a : Nat) (f : DefP.Fd) (q : Option Addr) (cq : Nat) (l : List DefP.Tok) => B.length - a) (i5 (0) (DefP.fd0 B) (none) (0) ([]) ?_ (lc4 ln) (sub (rz5 .nil) dd0)) ?_
    ·
      exact ⟨Nat.zero_le _, DefP.Fok.start B, DefP.toks_eq B, Nat.le_refl _⟩
    intro a f q cq l
    rintro ⟨ha, hf, hk, hll⟩
    refine rL TTZfA 9 rfl ?_
    refine w_condD rfl (fun h34 => ?_) (fun h34 => ?_)
    ·
      refine rC TTZfA 7 rfl ?_
      refine o_call (f_find b15 b10 b13 p c B R hR hB hl f a hf (by omega)) V.b71  rfl (.cons rr1 (.cons rr1 (.cons rr1 (.cons rr1 .nil)))) rfl ?_
      rintro _ _ ⟨rfl, rfl⟩
      refine rO TTZfA 7 rfl ?_
      refine w_join4 (fun (n : Nat) (q2 : Option Addr) (cq2 : Nat) (l2 : List DefP.Tok) => [(0, .slice p B.length c), (3, .pointer (some ⟨b15, 0, none⟩)), (5, .slice q2 l2.length cq2), (6, .int .i64 (a : Int)), (7, .int .i64 (n : Int))]) (fun (n : Nat) (q2 : Option Addr) (cq2 : Nat) (l2 : List DefP.Tok) => Row TK q2 l2.length cq2 l2 :: Cel b15 106 [.slice p B.length c, .slice (some ⟨b10, 0, none⟩) 8192 8192, .slice (some ⟨b13, 0, none⟩) B.length B.length] :: Row I3 (some ⟨b10, 0, none⟩) 8192 8192 f.hd :: Row I3 (some ⟨b13, 0, none⟩) B.length B.length f.nx :: R :: F) (fun (n : Nat) (q2 : Option Addr) (cq2 : Nat) (l2 : List DefP.Tok) => 1 ≤ n ∧ n ≤ 258 ∧ a + n ≤ B.length ∧ l2 ++ DefP.tokGo B (B.length - (a + n)) (DefP.putsP B f a n) (a + n) = DefP.toks B ∧ l2.length ≤ a + n) ?_ ?_
      ·
        refine rL TTZfA 6 rfl ?_
        refine w_condD rfl (fun h42 => ?_) (fun h42 => ?_)
        ·
          refine rC TTZfA 1 rfl ?_
          have hlt : a < B.length := by omega
          have hby := hB.get a
          refine rC TTZfA 4 rfl ?_
          refine oV (xI V.sl22 (by exact rdH hR mm3)) ?_
          refine oV (xL V.s5 (by exact rdH hR mm3)) ?_
          rw [show U5.g B (a : Int) = B.getD a 0 from rfl]
          refine oV (v_conv V.u5 Tryz.underlying3 rfl wI) ?_
          refine oV (v_to (v := .agg #[.int .i64 (B.getD a 0), .int .i64 0, .int .i64 0]) (v_build V.pl109 V.z109 rfl (cs := [_, _, _]) rfl) rfl) ?_
          refine r_build TK [(DefP.Tok.mk (B.getD a 0) 0 0)] V.sl97 V.z109 rfl rfl rfl (fill_tk (DefP.Tok.mk (B.getD a 0) 0 0)) rfl rfl ?_
          intro b50
          refine r_append (c := (TK)) V.sl97 V.z109 rfl rfl rfl rfl rr5 (own mm0) (by omega) rfl ?_
          intro p51 c51
          refine rO TTZfA 6 rfl ?_
          (rw [show l.length + 1 = (l ++ [(DefP.Tok.mk (B.getD a 0) 0 0)]).length from by rw [List.length_append]; rfl]; exact j4 1 _ _ (l ++ [(DefP.Tok.mk (B.getD a 0) 0 0)]) ⟨Nat.le_refl _, by omega, by omega, by rw [List.append_assoc, List.singleton_append, ← DefP.tokGo_lit hlt (by assumption)]; exact hk, by rw [List.length_append]; exact Nat.succ_le_succ hll⟩ (lc5 ln) (sub (rz1 (.cons rr1 (.cons rr1 (.cons rr1 (.cons rr1 .nil))))) dd1))
        ·
          obtain ⟨m, dd, em, ed, m1, m2, m3⟩ := DefP.find_big hf (by omega)
          refine rC TTZfA 4 rfl ?_
          refine oV (v_to (v := .agg #[.int .i64 0, .int .i64 (DefP.findP B f a).1, .int .i64 (DefP.findP B f a).2]) (v_build V.pl109 V.z109 rfl (cs := [_, _, _]) rfl) rfl) ?_
          refine r_build TK [(DefP.Tok.mk 0 (DefP.findP B f a).1 (DefP.findP B f a).2)] V.sl97 V.z109 rfl rfl rfl (fill_tk (DefP.Tok.mk 0 (DefP.findP B f a).1 (DefP.findP B f a).2)) rfl rfl ?_
          intro b56
          refine r_append (c := (TK)) V.sl97 V.z109 rfl rfl rfl rfl rr5 (own mm0) (by omega) rfl ?_
          intro p57 c57
          refine rO TTZfA 2 rfl ?_
          (rw [show l.length + 1 = (l ++ [(DefP.Tok.mk 0 (DefP.findP B f a).1 (DefP.findP B f a).2)]).length from by rw [List.length_append]; rfl, show Value.int .i64 (DefP.findP B f a).1 = .int .i64 (m : Int) from by rw [em]]; exact j4 m _ _ (l ++ [(DefP.Tok.mk 0 (DefP.findP B f a).1 (DefP.findP B f a).2)]) ⟨by omega, by omega, by omega, by rw [List.append_assoc, List.singleton_append, ← DefP.tokGo_cp (by omega) (by assumption) em]; exact hk, by rw [List.length_append]; simp; omega⟩ (lc5 ln) (sub (rz1 (.cons rr1 (.cons rr1 (.cons rr1 (.cons rr1 .nil))))) dd1))
      ·
        intro n q2 cq2 l2
        rintro ⟨hn1, hn2, hn3, hn4, hn5⟩
        refine rC TTZfA 7 rfl ?_
        rw [show ((6 : Nat), Value.int .i64 (a : Int)) = (6, .int .i64 ((a : Int) + ((0 : Nat) : Int))) from by simp]
        refine w_loop1 (fun (j : Nat) => [(0, .slice p B.length c), (3, .pointer (some ⟨b15, 0, none⟩)), (5, .slice q2 l2.length cq2), (6, .int .i64 ((a : Int) + (j : Int))), (58, .int .i64 (n : Int)), (59, .int .i64 (j : Int))]) (fun (j : Nat) => Cel b15 106 [.slice p B.length c, .slice (some ⟨b10, 0, none⟩) 8192 8192, .slice (some ⟨b13, 0, none⟩) B.length B.length] :: Row I3 (some ⟨b10, 0, none⟩) 8192 8192 (DefP.putsP B f a j).hd :: Row I3 (some ⟨b13, 0, none⟩) B.length B.length (DefP.putsP B f a j).nx :: R :: Row TK q2 l2.length cq2 l2 :: F) (fun (j : Nat) => j ≤ n) (fun (j : Nat) => n - j) (i1 (0) ?_ (lc1 (lc5 ln)) (sub (.cons rr1 (.cons rr1 (.cons rr1 (.cons rr1 (rz1 .nil))))) dd0)) ?_
        ·
          exact Nat.zero_le _
        intro j
        rintro hj
        refine rL TTZfA 6 rfl ?_
        refine w_condD rfl (fun h60 => ?_) (fun h60 => ?_)
        ·
          refine rC TTZfA 8 rfl ?_
          refine o_call (f_put b15 b10 b13 p c B R hR hB hl (DefP.putsP B f a j) (a + j) (hf.puts j) (by omega)) V.b72  rfl (rz4 .nil) rfl ?_
          rintro _ _ ⟨rfl, rfl⟩
          refine rOs TTZfA 13 rfl (by omega) ?_
          rw [show (a : Int) + (j : Int) + 1 = (a : Int) + ((j + 1 : Nat) : Int) from by omega]
          refine j1 (j + 1) ?_ (lc1 (lc5 ln)) (sub (rz5 .nil) dd0)
          exact ⟨by omega, by omega⟩
        ·
          refine rC TTZfA 5 rfl ?_
          obtain rfl : j = n := by omega
          rw [show (a : Int) + (j : Int) = ((a + j : Nat) : Int) from rfl]
          exact j5 (a + j) (DefP.putsP B f a j) _ _ _ ⟨⟨hn3, hf.puts j, hn4, hn5⟩, by omega⟩ (lc4 ln) (sub (.cons rr4 (rz4 .nil)) dd0)
    ·
      refine rC TTZfA 12 rfl ?_
      obtain rfl : a = B.length := by omega
      have hk2 : l = DefP.toks B := by rw [← hk]; simp [DefP.tokGo]
      subst hk2
      exact ret_ok (res1 rfl) ⟨q, cq, rfl, rfl⟩ (sub (rz1 (.cons rr3 .nil)) dd3)
end Go.Proofs.YtmbljkghkcgejaaGreat
namespace Go.Proofs.YtmbljkghkcgejaaGreat
open Go.Sl 
theorem TTZfB : okT Tryz.prog ⟨[97], [(109, 0, 0), (109, 1, 1), (109, 2, 2), (114, 0, 0), (114, 1, 1), (114, 2, 2)]⟩ = true := by kernel_rfl
attribute [local irreducible] DefP.mre DefP.mreGo DefP.lnSm DefP.lnMo DefP.lnRe DefP.dsSm DefP.dsMo DefP.dsRe DefP.tokB DefP.toksB HuffP.newE HuffP.wb HuffP.ord HuffP.cntL HuffP.words HuffP.mostL HuffP.lkW HuffP.lkN HuffP.lkB
set_option maxHeartbeats 1000000 in
theorem k_length (n : Int) (hn : 3 ≤ n ∧ n ≤ 258) : Ctr Tryz.prog 89 [.int .i64 n] [] (Ret fun v G => v = .tuple #[.int .i64 (DefP.lnSm n), .int .i64 (DefP.lnMo n : Int), .int .i64 (DefP.lnRe n)] ∧ G = []) := by
 refine spec_of [(0, _)] Tryz.func89 rfl Tryz.ntmps89 rfl rfl ?_
 intro w0 F
 refine rTs TTZfB 23 rfl (by omega) ?_
 refine w_condD rfl (fun h7 => ?_) (fun h7 => ?_)
 ·refine rC TTZfB 10 rfl ?_
  have e1 : DefP.lnSm n = 285 := by unfold DefP.lnSm; rw [if_pos (by omega)]
  have e2 : DefP.lnMo n = 0 := by unfold DefP.lnMo; rw [if_pos (by omega)]
  have e3 : DefP.lnRe n = 0 := by unfold DefP.lnRe; rw [if_pos (by omega)]
  rw [e1, e2, e3]
  exact ret_ok (res3 rfl rfl rfl) ⟨rfl, rfl⟩ (sub .nil dd0)
 ·refine rC TTZfB 7 rfl ?_
  refine w_condD rfl (fun h10 => ?_) (fun h10 => ?_)
  ·refine rCs TTZfB 12 rfl (by omega) ?_
   have e1 : DefP.lnSm n = 257 + (n - 3) := by unfold DefP.lnSm; rw [if_neg (by omega), if_pos (by omega)]
   have e2 : DefP.lnMo n = 0 := by unfold DefP.lnMo; rw [if_neg (by omega), if_pos (by omega)]
   have e3 : DefP.lnRe n = 0 := by unfold DefP.lnRe; rw [if_neg (by omega), if_pos (by omega)]
   rw [e1, e2, e3]
   exact ret_ok (res3 rfl rfl rfl) ⟨rfl, rfl⟩ (sub .nil dd0)
  ·refine rC TTZfB 5 rfl ?_
   refine w_loop1 (fun (k : Nat) => [(0, .int .i64 (n - 3)), (3, .int .i64 (k : Int))]) (fun (k : Nat) => F) (fun (k : Nat) => k ≤ 14 ∧ DefP.mre 8 (n - 3) = DefP.mreGo 8 (n - 3) (16 - k) k) (fun (k : Nat) => 16 - k) (i1 (0) ?_ (lc2 ln) (sub .nil dd0)) ?_
   ·exact ⟨by omega, by unfold DefP.mre; rfl⟩
   intro k
   rintro ⟨hk, hk2⟩
   refine rL TTZfB 5 rfl ?_
   refine oV (v_shr (r := (n - 3) / 2 ^ k) rfl rfl (by omega) (BitP.shrI (by omega) rfl)) ?_
   refine rO TTZfB 3 rfl ?_
   refine w_condD rfl (fun h18 => ?_) (fun h18 => ?_)
   ·refine rCs TTZfB 9 rfl (by omega) ?_
    have hk13 : k < 13 := by
     rcases Nat.lt_or_ge k 13 with h1 | h1
     ·exact h1
     ·have := DefP.div_le (x := (n - 3)) (by omega) h1; omega
    refine j1 (k + 1) ?_ (lc2 ln) (sub .nil dd0)
    exact ⟨⟨by omega, hk2.trans (DefP.mreGo_next (by omega) (by omega))⟩, by omega⟩
   ·refine rC TTZfB 6 rfl ?_
    have hM := DefP.mre_ok (lim := 8) (x := (n - 3)) (by decide) (by omega)
    have hkm : DefP.mre 8 (n - 3) = k := hk2.trans (DefP.mreGo_end (by omega) _)
    have hk13 := hM.le
    rw [hkm] at hk13
    have hp13 := DefP.pow_le13 hk13
    have hqb : 0 ≤ (n - 3) / 2 ^ k := Int.ediv_nonneg (by omega) (by omega)
    have hqc : (n - 3) / 2 ^ k ≤ (n - 3) := Int.ediv_le_self _ (by omega)
    refine w_rd V.mixed (by kernel_rfl) ?_
    refine rRs TTZfB 5 rfl (by omega) ?_
    refine oR (v_shr (r := (n - 3) / 2 ^ k) rfl rfl (by omega) (BitP.shrI (by omega) rfl)) ?_
    refine rRs TTZfB 4 rfl (by omega) ?_
    refine oR (v_shl (r := 2 ^ k) rfl rfl (by omega) (DefP.shl_1 (by omega))) ?_
    refine rRs TTZfB 1 rfl (by omega) ?_
    refine oR (v_and (r := (n - 3) % 2 ^ k) rfl rfl (DefP.and_low (by omega) (by omega))) ?_
    refine rR TTZfB 3 rfl ?_
    refine Rg.o_nil ?_
    refine rN TTZfB 2 rfl ?_
    have e1 : DefP.lnSm n = 257 + 4 * (k : Int) + (n - 3) / 2 ^ k := by unfold DefP.lnSm; rw [if_neg (by omega), if_neg (by omega), hkm]
    have e2 : DefP.lnMo n = k := by unfold DefP.lnMo; rw [if_neg (by omega), if_neg (by omega), hkm]
    have e3 : DefP.lnRe n = (n - 3) % 2 ^ k := by unfold DefP.lnRe; rw [if_neg (by omega), if_neg (by omega), hkm]
    rw [e1, e2, e3]
    exact ret_ok (res3 rfl rfl rfl) ⟨rfl, rfl⟩ (sub .nil dd0)
set_option maxHeartbeats 1000000 in
theorem k_away (n : Int) (hn : 1 ≤ n ∧ n ≤ 32768) : Ctr Tryz.prog 90 [.int .i64 n] [] (Ret fun v G => v = .tuple #[.int .i64 (DefP.dsSm n), .int .i64 (DefP.dsMo n : Int), .int .i64 (DefP.dsRe n)] ∧ G = []) := by
 refine spec_of [(0, _)] Tryz.func90 rfl Tryz.ntmps90 rfl rfl ?_
 intro w0 F
 refine rTs TTZfB 21 rfl (by omega) ?_
 refine w_condD rfl (fun h8 => ?_) (fun h8 => ?_)
 ·refine rC TTZfB 10 rfl ?_
  have e1 : DefP.dsSm n = n - 1 := by unfold DefP.dsSm; rw [if_pos (by omega)]
  have e2 : DefP.dsMo n = 0 := by unfold DefP.dsMo; rw [if_pos (by omega)]
  have e3 : DefP.dsRe n = 0 := by unfold DefP.dsRe; rw [if_pos (by omega)]
  rw [e1, e2, e3]
  exact ret_ok (res3 rfl rfl rfl) ⟨rfl, rfl⟩ (sub .nil dd0)
 ·refine rC TTZfB 4 rfl ?_
  refine w_loop1 (fun (k : Nat) => [(0, .int .i64 (n - 1)), (3, .int .i64 (k : Int))]) (fun (k : Nat) => F) (fun (k : Nat) => k ≤ 14 ∧ DefP.mre 4 (n - 1) = DefP.mreGo 4 (n - 1) (16 - k) k) (fun (k : Nat) => 16 - k) (i1 (0) ?_ (lc2 ln) (sub .nil dd0)) ?_
  ·exact ⟨by omega, by unfold DefP.mre; rfl⟩
  intro k
  rintro ⟨hk, hk2⟩
  refine rL TTZfB 5 rfl ?_
  refine oV (v_shr (r := (n - 1) / 2 ^ k) rfl rfl (by omega) (BitP.shrI (by omega) rfl)) ?_
  refine rO TTZfB 3 rfl ?_
  refine w_condD rfl (fun h13 => ?_) (fun h13 => ?_)
  ·refine rCs TTZfB 9 rfl (by omega) ?_
   have hk13 : k < 13 := by
    rcases Nat.lt_or_ge k 13 with h1 | h1
    ·exact h1
    ·have := DefP.div_le (x := (n - 1)) (by omega) h1; omega
   refine j1 (k + 1) ?_ (lc2 ln) (sub .nil dd0)
   exact ⟨⟨by omega, hk2.trans (DefP.mreGo_next (by omega) (by omega))⟩, by omega⟩
  ·refine rC TTZfB 6 rfl ?_
   have hM := DefP.mre_ok (lim := 4) (x := (n - 1)) (by decide) (by omega)
   have hkm : DefP.mre 4 (n - 1) = k := hk2.trans (DefP.mreGo_end (by omega) _)
   have hk13 := hM.le
   rw [hkm] at hk13
   have hp13 := DefP.pow_le13 hk13
   have hqb : 0 ≤ (n - 1) / 2 ^ k := Int.ediv_nonneg (by omega) (by omega)
   have hqc : (n - 1) / 2 ^ k ≤ (n - 1) := Int.ediv_le_self _ (by omega)
   refine w_rd V.mixed (by kernel_rfl) ?_
   refine rRs TTZfB 4 rfl (by omega) ?_
   refine oR (v_shr (r := (n - 1) / 2 ^ k) rfl rfl (by omega) (BitP.shrI (by omega) rfl)) ?_
   refine rRs TTZfB 4 rfl (by omega) ?_
   refine oR (v_shl (r := 2 ^ k) rfl rfl (by omega) (DefP.shl_1 (by omega))) ?_
   refine rRs TTZfB 1 rfl (by omega) ?_
   refine oR (v_and (r := (n - 1) % 2 ^ k) rfl rfl (DefP.and_low (by omega) (by omega))) ?_
   refine rR TTZfB 3 rfl ?_
   refine Rg.o_nil ?_
   refine rN TTZfB 2 rfl ?_
   have e1 : DefP.dsSm n = 2 * (k : Int) + (n - 1) / 2 ^ k := by unfold DefP.dsSm; rw [if_neg (by omega), hkm]
   have e2 : DefP.dsMo n = k := by unfold DefP.dsMo; rw [if_neg (by omega), hkm]
   have e3 : DefP.dsRe n = (n - 1) % 2 ^ k := by unfold DefP.dsRe; rw [if_neg (by omega), hkm]
   rw [e1, e2, e3]
   exact ret_ok (res3 rfl rfl rfl) ⟨rfl, rfl⟩ (sub .nil dd0)
theorem k_row (x : Int) (n : Nat) (hn : n ≤ 1000) : Ctr Tryz.prog 73 [.int .i64 x, .int .i64 (n : Int)] [] (Ret fun v G => ∃ q c, v = .slice q n c ∧ G = [Row I3 q n c (List.replicate n x)]) := by
 refine spec_of [(0, _), (1, _)] Tryz.func73 rfl Tryz.ntmps73 rfl rfl ?_
 intro w0 F
 refine rT TTZfB 18 rfl ?_
 refine w_add0 (Row I3 none 0 0 (List.replicate 0 x)) (Row.nil _ _ _) ?_
 refine w_loop3 (fun (k : Nat) (q : Option Addr) (c : Nat) => [(0, .int .i64 x), (5, .slice q k c), (6, .int .i64 (n : Int)), (7, .int .i64 (k : Int))]) (fun (k : Nat) (q : Option Addr) (c : Nat) => Row I3 q k c (List.replicate k x) :: F) (fun (k : Nat) (q : Option Addr) (c : Nat) => k ≤ n) (fun (k : Nat) (q : Option Addr) (c : Nat) => n - k) (i3 (0) (none) (0) ?_ (lc4 ln) (sub (rz1 .nil) dd0)) ?_
 ·exact Nat.zero_le _
 intro k q c
 rintro hk
 refine rL TTZfB 6 rfl ?_
 refine w_condD rfl (fun h8 => ?_) (fun h8 => ?_)
 ·refine rC TTZfB 7 rfl ?_
  refine r_build (I3) [x] V.sl77 V.z3 rfl rfl rfl rfl rfl rfl ?_
  intro b11
  refine r_append (c := (I3)) V.sl77 V.z3 rfl rfl rfl rfl rr1 (own mm0) (by omega) rfl ?_
  intro p12 c12
  refine rOs TTZfB 8 rfl (by omega) ?_
  rw [show List.replicate k x ++ [x] = List.replicate (k + 1) x from List.replicate_succ'.symm]
  refine j3 (k + 1) (_) (_) ?_ (lc4 ln) (sub (rz1 .nil) dd1)
  exact ⟨by omega, by omega⟩
 ·refine rC TTZfB 12 rfl ?_
  obtain rfl : k = n := by omega
  exact ret_ok (res1 rfl) ⟨q, c, rfl, rfl⟩ (sub (rz1 .nil) dd0)
theorem k_order  : Ctr Tryz.prog 79 [] [] (Ret fun v G => ∃ q, v = .slice (some ⟨q, 0, none⟩) 19 19 ∧ G = [Row I3 (some ⟨q, 0, none⟩) 19 19 InfP.ordr]) := by
 refine spec_of [] Tryz.func79 rfl Tryz.ntmps79 rfl rfl ?_
 intro w0 F
 refine rT TTZfB 7 rfl ?_
 refine r_build (I3) [16, 17, 18, 0, 8, 7, 9, 6, 10, 5, 11, 4, 12, 3, 13, 2, 14, 1, 15] V.sl77 V.z3 rfl rfl rfl rfl rfl rfl ?_
 intro b1
 refine rO TTZfB 4 rfl ?_
 exact ret_ok (res1 rfl) ⟨b1, rfl, rfl⟩ (sub (rz1 .nil) dd0)
set_option maxHeartbeats 4000000 in
theorem k_write (bl : Nat) (pa : Option Addr) (a : List Int) (ca : Nat) (pd : Option Addr) (d : List Int) (cd : Nat) (q : Option Addr) (cq : Nat) (l : List DefP.Tok) (bs : List Int) (RT RA RD : HProp) (hRT : ∀ w0 h, RT w0 h → RdR TK q l.length l w0 h) (hRA : ∀ w0 h, RA w0 h → RdR I3 pa a.length a w0 h) (hRD : ∀ w0 h, RD w0 h → RdR I3 pd d.length d w0 h) (hEa : HuffP.newE a = 0) (hEd : HuffP.newE d = 0) (hF : DefP.Fits a d l) (hl : l.length ≤ 4194304) (hb : bs.length ≤ 20000) : Ctr Tryz.prog 75 [.agg #[.pointer (some ⟨bl, 0, none⟩), .slice pa a.length ca, .slice pd d.length cd], .slice q l.length cq] [WB bl bs, RT, RA, RD] (Ret fun v G => v = .tuple #[] ∧ G = [WB bl (bs ++ (DefP.toksB a d l ++ HuffP.wb a 256)), RT, RA, RD]) := by
 refine spec_of [(0, _), (1, _)] Tryz.func75 rfl Tryz.ntmps75 rfl rfl ?_
 intro w0 F
 have hVa := (HuffP.newE_vl hEa).1
 have hVd := (HuffP.newE_vl hEd).1
 refine rT TTZfB 2 rfl ?_
 refine o_box rfl (cs := [_, _, _]) rfl rfl ?_
 intro b2
 refine rO TTZfB 5 rfl ?_
 refine oV (v_load V.s77 rfl mm0 rfl) ?_
 refine o_call (h_new_yes pa ca a RA hRA hEa) V.b80  rfl (.cons rr3 .nil) rfl ?_
 rintro _ _ ⟨ha, rfl, rfl⟩
 refine rO TTZfB 10 rfl ?_
 refine oV (v_load V.s77 rfl mm2 rfl) ?_
 refine o_call (h_new_yes pd cd d RD hRD hEd) V.b80  rfl (.cons rr5 .nil) rfl ?_
 rintro _ _ ⟨hd, rfl, rfl⟩
 refine rO TTZfB 16 rfl ?_
 rw [show WB bl bs = WB bl (bs ++ DefP.toksB a d (l.take 0)) from by rw [DefP.toksB_nil, List.append_nil]]
 refine w_loop1 (fun (k : Nat) => [(2, .pointer (some ⟨b2, 0, none⟩)), (4, .pointer (some ⟨ha, 0, none⟩)), (6, .pointer (some ⟨hd, 0, none⟩)), (25, .slice q l.length cq), (26, .int .i64 (l.length : Int)), (27, .int .i64 (k : Int))]) (fun (k : Nat) => WB bl (bs ++ (DefP.toksB a d (l.take k))) :: HC ha a :: HC hd d :: Cel b2 114 [.pointer (some ⟨bl, 0, none⟩), .slice pa a.length ca, .slice pd d.length cd] :: RT :: RA :: RD :: F) (fun (k : Nat) => k ≤ l.length) (fun (k : Nat) => l.length - k) (i1 (0) ?_ (lc1 (lc5 ln)) (sub (.cons rr5 (.cons rr2 (rz1 (.cons rr2 (.cons rr2 (.cons rr1 (.cons rr0 .nil))))))) dd0)) ?_
 ·exact Nat.zero_le _
 intro k
 rintro hk
 refine rL TTZfB 6 rfl ?_
 refine w_condD rfl (fun h28 => ?_) (fun h28 => ?_)
 ·refine rC TTZfB 5 rfl ?_
  have hk2 : k < l.length := by omega
  have hxe : (TK.g l (k : Int)) = l[k] := by simp [Ec.g, hk2]
  have hxm : (TK.g l (k : Int)) ∈ l := by rw [hxe]; exact List.getElem_mem hk2
  have hto := hF.ok _ hxm
  have hor := hto.or_
  have hnx := DefP.toksB_next (ls := a) (ds := d) hk2
  have htl := DefP.toksB_len hVa hVd (l := l.take k) (fun t ht => hF.ok t (List.mem_of_mem_take ht))
  rw [List.length_take] at htl
  refine w_region ?_
  refine oV (xI V.sl97 (by exact rdH hRT mm4)) ?_
  refine oV (r_loadA (c := (TK)) V.a109 rfl (by exact rdH hRT mm4) (by omega) (by omega) rfl) ?_
  refine o_alloc V.z109 rfl ?_
  intro b9
  refine o_eff (v_storeAgg V.a109 rfl rfl (us := [_, _, _]) rfl rfl (by exact pp0) (by exact Nat.le_of_ble_eq_true rfl) rfl) ?_
  refine rO TTZfB 6 rfl ?_
  refine oV (v_load V.s3 rfl mm0 rfl) ?_
  refine rO TTZfB 3 rfl ?_
  refine w_condD rfl (fun h33 => ?_) (fun h33 => ?_)
  ·refine rC TTZfB 4 rfl ?_
   refine oV (v_load V.s71 rfl mm4 rfl) ?_
   refine oV (v_fieldAddr V.f109_0 rfl) ?_
   refine oV (v_load V.s3 rfl mm0 rfl) ?_
   refine o_call (h_put_yes ha a bl (bs ++ (DefP.toksB a d (l.take k))) (TK.g l (k : Int)).lit hEa (hF.lit _ hxm h33).2 (by rw [List.length_append]; omega)) V.b81  rfl (.cons rr2 (.cons rr1 .nil)) rfl ?_
   rintro _ _ ⟨rfl, rfl⟩
   refine rOs TTZfB 10 rfl (by omega) ?_
   (rw [List.append_assoc, show HuffP.wb a (TK.g l (k : Int)).lit = DefP.tokB a d l[k] from by rw [← hxe, DefP.tokB_lit h33], hnx]; exact j1 (k + 1) ⟨by omega, by omega⟩ (lc1 (lc5 ln)) (sub (.cons rr1 (rz1 (.cons rr1 (.cons rr1 (.cons rr1 (.cons rr1 (.cons rr1 .nil))))))) dd1))
  ·refine rC TTZfB 3 rfl ?_
   have hcp := hF.cp _ hxm h33
   have hln := DefP.ln_ok (n := (TK.g l (k : Int)).n) (by omega)
   have hds := DefP.ds_ok (f := (TK.g l (k : Int)).far) (by omega)
   have hp1 := DefP.pow_le13 hln.2.2.2.2.2.2
   have hp2 := DefP.pow_le13 hds.2.2.2.2.2.2
   have hw1 : (HuffP.wb a (DefP.lnSm (TK.g l (k : Int)).n)).length ≤ 15 := by rw [HuffP.wb_len]; have := HuffP.lkN_le hVa (DefP.lnSm (TK.g l (k : Int)).n); omega
   have hw2 : (HuffP.wb d (DefP.dsSm (TK.g l (k : Int)).far)).length ≤ 15 := by rw [HuffP.wb_len]; have := HuffP.lkN_le hVd (DefP.dsSm (TK.g l (k : Int)).far); omega
   refine rC TTZfB 2 rfl ?_
   refine oV (v_load V.s3 rfl mm0 rfl) ?_
   refine o_call (k_length (TK.g l (k : Int)).n (by omega)) V.b89  rfl .nil rfl ?_
   rintro _ _ ⟨rfl, rfl⟩
   refine rO TTZfB 13 rfl ?_
   refine oV (v_load V.s71 rfl mm4 rfl) ?_
   refine oV (v_move rfl) ?_
   refine o_call (h_put_yes ha a bl (bs ++ (DefP.toksB a d (l.take k))) (DefP.lnSm (TK.g l (k : Int)).n) hEa hcp.2.1 (by rw [List.length_append]; omega)) V.b81  rfl (.cons rr2 (.cons rr1 .nil)) rfl ?_
   rintro _ _ ⟨rfl, rfl⟩
   refine rO TTZfB 5 rfl ?_
   refine oV (v_load V.s71 rfl mm4 rfl) ?_
   refine rO TTZfB 2 rfl ?_
   refine o_call (c_put bl (bs ++ (DefP.toksB a d (l.take k)) ++ HuffP.wb a (DefP.lnSm (TK.g l (k : Int)).n)) (DefP.lnRe (TK.g l (k : Int)).n) (DefP.lnMo (TK.g l (k : Int)).n) ⟨hln.2.2.2.2.1, by omega⟩ (by omega) (by simp only [List.length_append]; omega)) V.b74  rfl (.cons rr1 .nil) rfl ?_
   rintro _ _ ⟨rfl, rfl⟩
   refine rO TTZfB 5 rfl ?_
   refine oV (v_load V.s3 rfl mm2 rfl) ?_
   refine o_call (k_away (TK.g l (k : Int)).far (by omega)) V.b90  rfl .nil rfl ?_
   rintro _ _ ⟨rfl, rfl⟩
   refine rO TTZfB 13 rfl ?_
   refine oV (v_load V.s71 rfl mm4 rfl) ?_
   refine oV (v_move rfl) ?_
   refine o_call (h_put_yes hd d bl (bs ++ (DefP.toksB a d (l.take k)) ++ HuffP.wb a (DefP.lnSm (TK.g l (k : Int)).n) ++ BitP.lowB (DefP.lnRe (TK.g l (k : Int)).n) (DefP.lnMo (TK.g l (k : Int)).n)) (DefP.dsSm (TK.g l (k : Int)).far) hEd hcp.2.2.2 (by simp only [List.length_append, BitP.lowB_len]; omega)) V.b81  rfl (.cons rr3 (rz1 .nil)) rfl ?_
   rintro _ _ ⟨rfl, rfl⟩
   refine rO TTZfB 4 rfl ?_
   refine oV (v_load V.s71 rfl mm4 rfl) ?_
   refine rO TTZfB 2 rfl ?_
   refine o_call (c_put bl (bs ++ (DefP.toksB a d (l.take k)) ++ HuffP.wb a (DefP.lnSm (TK.g l (k : Int)).n) ++ BitP.lowB (DefP.lnRe (TK.g l (k : Int)).n) (DefP.lnMo (TK.g l (k : Int)).n) ++ HuffP.wb d (DefP.dsSm (TK.g l (k : Int)).far)) (DefP.dsRe (TK.g l (k : Int)).far) (DefP.dsMo (TK.g l (k : Int)).far) ⟨hds.2.2.2.2.1, by omega⟩ (by omega) (by simp only [List.length_append, BitP.lowB_len]; omega)) V.b74  rfl (.cons rr1 .nil) rfl ?_
   rintro _ _ ⟨rfl, rfl⟩
   refine rOs TTZfB 7 rfl (by omega) ?_
   (rw [show bs ++ (DefP.toksB a d (l.take k)) ++ HuffP.wb a (DefP.lnSm (TK.g l (k : Int)).n) ++ BitP.lowB (DefP.lnRe (TK.g l (k : Int)).n) (DefP.lnMo (TK.g l (k : Int)).n) ++ HuffP.wb d (DefP.dsSm (TK.g l (k : Int)).far) ++ BitP.lowB (DefP.dsRe (TK.g l (k : Int)).far) (DefP.dsMo (TK.g l (k : Int)).far) = bs ++ ((DefP.toksB a d (l.take k)) ++ DefP.tokB a d l[k]) from by rw [← hxe, DefP.tokB_cp h33]; simp only [List.append_assoc], hnx]; exact j1 (k + 1) ⟨by omega, by omega⟩ (lc1 (lc5 ln)) (sub (rz1 (.cons rr1 (.cons rr0 (.cons rr1 (.cons rr1 (.cons rr1 (.cons rr1 .nil))))))) dd1))
 ·refine rC TTZfB 5 rfl ?_
  obtain rfl : k = l.length := by omega
  rw [List.take_length]
  have htl := DefP.toksB_len hVa hVd (l := l) hF.ok
  refine rC TTZfB 3 rfl ?_
  refine oV (v_load V.s71 rfl mm3 rfl) ?_
  refine o_call (h_put_yes ha a bl (bs ++ DefP.toksB a d l) 256 hEa hF.end_.2 (by rw [List.length_append]; omega)) V.b81  rfl (.cons rr1 (rz1 .nil)) rfl ?_
  rintro _ _ ⟨rfl, rfl⟩
  refine o_nil ?_
  rw [List.append_assoc]
  exact end_ok res0 ⟨rfl, rfl⟩ (sub (.cons rr1 (.cons rr3 (.cons rr3 (.cons rr3 .nil)))) dd3)
end Go.Proofs.YtmbljkghkcgejaaGreat
namespace Go.Proofs.YtmbljkghkcgejaaGreat
open Go.Sl 
theorem TTZfC : okT Tryz.prog ⟨[77, 97], [(109, 0, 0), (109, 1, 1), (109, 2, 2)]⟩ = true := by kernel_rfl
attribute [local irreducible] DefP.mxK DefP.dnG DefP.dn DefP.rr DefP.rarK DefP.rarF DefP.incr DefP.cntA DefP.cntB DefP.cA0 DefP.cB0 DefP.lnSm DefP.lnMo DefP.lnRe DefP.dsSm DefP.dsMo DefP.dsRe List.replicate
set_option maxHeartbeats 2000000 in
theorem k_rare (q : Option Addr) (c : Nat) (fr : List Int) (hb : ∀ i, 0 ≤ fr.getD i 0 ∧ fr.getD i 0 ≤ 8388608) (hl : fr.length ≤ 1000) : Ctr Tryz.prog 91 [.slice q fr.length c] [Row I3 q fr.length c fr] (Ret fun v G => v = .slice q fr.length c ∧ G = [Row I3 q fr.length c (DefP.rarF fr)]) := by
 refine spec_of [(0, _)] Tryz.func91 rfl Tryz.ntmps91 rfl rfl ?_
 intro w0 F
 refine rT TTZfC 19 rfl ?_
 rw [show ((3 : Nat), Value.int .i64 0) = (3, .int .i64 (DefP.mxK fr 0)) from by unfold DefP.mxK; rfl]
 refine w_loop1 (fun (k : Nat) => [(0, .slice q fr.length c), (3, .int .i64 (DefP.mxK fr k)), (9, .slice q fr.length c), (10, .int .i64 (fr.length : Int)), (11, .int .i64 (k : Int))]) (fun (k : Nat) => Row I3 q fr.length c fr :: F) (fun (k : Nat) => k ≤ fr.length) (fun (k : Nat) => fr.length - k) (i1 (0) ?_ (lc5 ln) (sub (rz1 .nil) dd0)) ?_
 ·exact Nat.zero_le _
 intro k
 rintro hk
 refine rL TTZfC 6 rfl ?_
 refine w_condD rfl (fun h12 => ?_) (fun h12 => ?_)
 ·refine rC TTZfC 6 rfl ?_
  refine oV (xI V.sl77 (own mm0)) ?_
  refine oV (xL V.s3 (own mm0)) ?_
  refine rO TTZfC 6 rfl ?_
  refine oV (v_max rfl rfl) ?_
  refine rOs TTZfC 8 rfl (by omega) ?_
  rw [show (if DefP.mxK fr k < I3.g fr (k : Int) then I3.g fr (k : Int) else DefP.mxK fr k) = DefP.mxK fr (k + 1) from by rw [show I3.g fr (k : Int) = fr.getD k 0 from rfl]; simp only [DefP.mxK]]
  refine j1 (k + 1) ?_ (lc5 ln) (sub (rz1 .nil) dd0)
  exact ⟨by omega, by omega⟩
 ·refine rC TTZfC 6 rfl ?_
  obtain rfl : k = fr.length := by omega
  refine rC TTZfC 6 rfl ?_
  have hm0 := DefP.mxK_ge fr fr.length
  have hm1 := DefP.mxK_le (N := 8388608) (by decide) (fun i => (hb i).2) fr.length
  refine w_loop1 (fun (d : Nat) => [(0, .slice q fr.length c), (3, .int .i64 (DefP.mxK fr fr.length)), (6, .int .i64 (d : Int))]) (fun (d : Nat) => Row I3 q fr.length c fr :: F) (fun (d : Nat) => d ≤ 4 ∧ DefP.dn fr = DefP.dnG (DefP.mxK fr fr.length) (16 - d) d) (fun (d : Nat) => 16 - d) (i1 (0) ?_ (lc3 ln) (sub (rz1 .nil) dd0)) ?_
  ·exact ⟨by omega, by unfold DefP.dn; rfl⟩
  intro d
  rintro ⟨hd, hd2⟩
  refine rL TTZfC 5 rfl ?_
  refine oV (v_shr (r := DefP.mxK fr fr.length / 2 ^ d) rfl rfl (by omega) (BitP.shrI (by omega) rfl)) ?_
  refine rO TTZfC 3 rfl ?_
  refine w_condD rfl (fun h22 => ?_) (fun h22 => ?_)
  ·refine rCs TTZfC 9 rfl (by omega) ?_
   have hd4 : d < 4 := by
    rcases Nat.lt_or_ge d 4 with h1 | h1
    ·exact h1
    ·exact absurd (by assumption) (DefP.div_lt4 (x := DefP.mxK fr fr.length) ⟨hm0, hm1⟩ h1)
   refine j1 (d + 1) ?_ (lc3 ln) (sub (rz1 .nil) dd0)
   exact ⟨⟨by omega, hd2.trans (DefP.dnG_next (by omega) (by assumption))⟩, by omega⟩
  ·refine rC TTZfC 14 rfl ?_
   have hdd : DefP.dn fr = d := hd2.trans (DefP.dnG_end (by assumption) _)
   rw [show Row I3 q fr.length c fr = Row I3 q fr.length c (DefP.rarK fr d 0) from by simp only [DefP.rarK]]
   refine w_loop1 (fun (i : Nat) => [(0, .slice q fr.length c), (6, .int .i64 (d : Int)), (25, .slice q fr.length c), (26, .int .i64 (fr.length : Int)), (27, .int .i64 (i : Int))]) (fun (i : Nat) => Row I3 q fr.length c (DefP.rarK fr d i) :: F) (fun (i : Nat) => i ≤ fr.length) (fun (i : Nat) => fr.length - i) (i1 (0) ?_ (lc5 ln) (sub (rz1 .nil) dd0)) ?_
   ·exact Nat.zero_le _
   intro i
   rintro hi
   refine rL TTZfC 6 rfl ?_
   refine w_condD rfl (fun h28 => ?_) (fun h28 => ?_)
   ·refine rC TTZfC 7 rfl ?_
    refine oV (xI V.sl77 (own mm0)) ?_
    refine oV (xL V.s3 (own mm0)) ?_
    have hi2 : i < fr.length := by omega
    have hgi := DefP.rarK_get fr d i i hi2
    rw [if_neg (by omega)] at hgi
    have hgl := DefP.rarK_len fr d i
    rw [show I3.g (DefP.rarK fr d i) (i : Int) = fr.getD i 0 from hgi]
    have hbi := hb i
    refine rO TTZfC 10 rfl ?_
    refine w_condD rfl (fun h33 => ?_) (fun h33 => ?_)
    ·refine rC TTZfC 5 rfl ?_
     refine oV (v_shr (r := fr.getD i 0 / 2 ^ d) rfl rfl (by omega) (BitP.shrI (by omega) rfl)) ?_
     refine oV (v_max rfl rfl) ?_
     refine oV (xI V.sl77 (own mm0)) ?_
     refine o_eff (r_store (c := (I3)) (_) V.s3 rfl rfl rfl (by exact pp0) (by omega) (by omega) rfl rfl) ?_
     refine rOs TTZfC 7 rfl (by omega) ?_
     (rw [show ((i : Int)).toNat = i from rfl, ← DefP.rarK_yes (d := d) h33]; exact j1 (i + 1) ⟨by omega, by omega⟩ (lc5 ln) (sub (rz1 .nil) dd0))
    ·refine rCs TTZfC 7 rfl (by omega) ?_
     (rw [← DefP.rarK_no (d := d) hi2 h33]; exact j1 (i + 1) ⟨by omega, by omega⟩ (lc5 ln) (sub (rz1 .nil) dd0))
   ·refine rC TTZfC 12 rfl ?_
    obtain rfl : i = fr.length := by omega
    exact ret_ok (res1 rfl) ⟨rfl, by unfold DefP.rarF; rw [hdd]⟩ (sub (rz1 .nil) dd0)
theorem k_rareN (q : Option Addr) (c n : Nat) (fr : List Int) (hb : ∀ i, 0 ≤ fr.getD i 0 ∧ fr.getD i 0 ≤ 8388608) (hn : fr.length = n) (hl : n ≤ 1000) : Ctr Tryz.prog 91 [.slice q n c] [Row I3 q n c fr] (Ret fun v G => v = .slice q n c ∧ G = [Row I3 q n c (DefP.rarF fr)]) := by
 subst hn
 exact k_rare q c fr hb hl
theorem incr_row {l l' : List Int} {s v : Int} (h : DefP.incr l s = l') (hv : v = I3.g l s) : l.set s.toNat (v + 1) = l' := by
 rw [← h, hv]; unfold DefP.incr; rfl
theorem cntA_z (l : List DefP.Tok) : (List.replicate 286 I3.d).set ((256 : Int)).toNat 1 = DefP.cntA (l.take 0) DefP.cA0 := by
 rw [List.take_zero]; unfold DefP.cA0; simp only [DefP.cntA]; rfl
theorem cntB_z (l : List DefP.Tok) : List.replicate 30 I3.d = DefP.cntB (l.take 0) DefP.cB0 := by
 rw [List.take_zero]; unfold DefP.cB0; simp only [DefP.cntB]
set_option maxHeartbeats 4000000 in
theorem k_counted (q : Option Addr) (cq : Nat) (l : List DefP.Tok) (RT : HProp) (hRT : ∀ w0 h, RT w0 h → RdR TK q l.length l w0 h) (hok : ∀ t ∈ l, DefP.TokOk t) (hl : l.length ≤ 4194304) : Ctr Tryz.prog 77 [.slice q l.length cq] [RT] (Ret fun v G => ∃ ba bb, v = .tuple #[.slice (some ⟨ba, 0, none⟩) 286 286, .slice (some ⟨bb, 0, none⟩) 30 30] ∧ G = [Row I3 (some ⟨ba, 0, none⟩) 286 286 (DefP.fA l), Row I3 (some ⟨bb, 0, none⟩) 30 30 (DefP.fB l), RT]) := by
 refine spec_of [(0, _)] Tryz.func77 rfl Tryz.ntmps77 rfl rfl ?_
 intro w0 F
 refine rT TTZfC 7 rfl ?_
 refine w_net [pz 0 [] [], pz 0 [] [], pz 1 [0] [], pz 7 [1] []] [⟨fun y => RT, none, none, []⟩, ⟨fun y => Row (I3) (some ⟨(blk' (slP (y 0))), 0, none⟩) 286 286 (List.replicate 286 (I3).d), some 0, none, []⟩, ⟨fun y => Row (I3) (some ⟨(blk' (slP (y 1))), 0, none⟩) 30 30 (List.replicate 30 (I3).d), some 1, none, []⟩] F V.mixed (by kernel_rfl) rfl (fun _ => .refl _) (locT_0 _ (locT_1 _ rfl (by intro y y2 h; simp only [h 0 (.inl rfl)]) (locT_1 _ rfl (by intro y y2 h; simp only [h 1 (.inl rfl)]) locT_nil))) ?_
 refine net_new (fun y v => .slice (some ⟨blk' (slP v), 0, none⟩) 286 286) (fun y v => True) _ _ (fun y v => [Row (I3) (some ⟨(blk' (slP v)), 0, none⟩) 286 286 (List.replicate 286 (I3).d)]) _ (fun y => rfl) (fun y => rfl) (fun y => rfl) (fun y => rfl) (fun y FF hA => st_newN (r_makeNX 286 286 (I3) rfl rfl V.sl77 V.z3 rfl rfl rfl rfl (by omega) (by omega) rfl)) (by intros; rfl) (by intros; rfl) (by intros; rfl) (by intro y y2 h; simp only [h 0 (.inl rfl)]) (by intro y y2 h; rfl) ?_
 refine net_new (fun y v => .slice (some ⟨blk' (slP v), 0, none⟩) 30 30) (fun y v => True) _ _ (fun y v => [Row (I3) (some ⟨(blk' (slP v)), 0, none⟩) 30 30 (List.replicate 30 (I3).d)]) _ (fun y => rfl) (fun y => rfl) (fun y => rfl) (fun y => rfl) (fun y FF hA => st_newN (r_makeNX 30 30 (I3) rfl rfl V.sl77 V.z3 rfl rfl rfl rfl (by omega) (by omega) rfl)) (by intros; rfl) (by intros; rfl) (by intros; rfl) (by intro y y2 h; simp only [h 1 (.inl rfl)]) (by intro y y2 h; rfl) ?_
 refine net_pure _ (fun y => rfl) rfl rfl rfl (fun y hA L => st_v (v_assign rfl) ⟨rfl, rfl⟩) (by intros; rfl) (by intro y y2 h; simp only [h 0 (.inr (by decide))]) ?_
 refine net_pure _ (fun y => rfl) rfl rfl rfl (fun y hA L => st_v (v_assign rfl) ⟨rfl, rfl⟩) (by intros; rfl) (by intro y y2 h; simp only [h 1 (.inr (by decide))]) ?_
 refine net_nil ?_
 intro y hA
 clear hA
 refine thn_n ?_
 refine w_keep [(0, .slice q l.length cq), (4, .slice (some ⟨(blk' (slP (y 0))), 0, none⟩) 286 286), (5, .slice (some ⟨(blk' (slP (y 1))), 0, none⟩) 30 30)] (.cons (d := 0) rfl (.cons (d := 4) rfl (.cons (d := 5) rfl (.nil _)))) ?_
 refine w_sub (M := RT :: Row (I3) (some ⟨(blk' (slP (y 0))), 0, none⟩) 286 286 (List.replicate 286 (I3).d) :: Row (I3) (some ⟨(blk' (slP (y 1))), 0, none⟩) 30 30 (List.replicate 30 (I3).d) :: F) (fun _ _ h => h) ?_
 generalize (blk' (slP (y 0))) = b11
 generalize (blk' (slP (y 1))) = b12
 refine rC TTZfC 3 rfl ?_
 refine oV (xI V.sl77 (own mm1)) ?_
 refine o_eff (r_store (c := (I3)) (_) V.s3 rfl rfl rfl (by exact pp1) (by omega) (by omega) rfl rfl) ?_
 refine rO TTZfC 11 rfl ?_
 rw [cntA_z l, cntB_z l]
 refine w_loop1 (fun (k : Nat) => [(4, .slice (some ⟨b11, 0, none⟩) 286 286), (5, .slice (some ⟨b12, 0, none⟩) 30 30), (15, .slice q l.length cq), (16, .int .i64 (l.length : Int)), (17, .int .i64 (k : Int))]) (fun (k : Nat) => Row I3 (some ⟨b11, 0, none⟩) 286 286 (DefP.cntA (l.take k) DefP.cA0) :: Row I3 (some ⟨b12, 0, none⟩) 30 30 (DefP.cntB (l.take k) DefP.cB0) :: RT :: F) (fun (k : Nat) => k ≤ l.length) (fun (k : Nat) => l.length - k) (i1 (0) ?_ (lc5 ln) (sub (.cons rr1 (.cons rr1 (rz1 .nil))) dd0)) ?_
 ·exact Nat.zero_le _
 intro k
 rintro hk
 refine rL TTZfC 6 rfl ?_
 refine w_condD rfl (fun h18 => ?_) (fun h18 => ?_)
 ·refine rC TTZfC 5 rfl ?_
  have hk2 : k < l.length := by omega
  have hxe : (TK.g l (k : Int)) = l[k] := by simp [Ec.g, hk2]
  have hxm : (TK.g l (k : Int)) ∈ l := by rw [hxe]; exact List.getElem_mem hk2
  have hto := hok _ hxm
  have hor := hto.or_
  have hgA := fun i => DefP.cA_all (l := l.take k) (by rw [List.length_take]; omega) i
  have hgB := fun i => DefP.cB_all (l := l.take k) (by rw [List.length_take]; omega) i
  have hAl : (DefP.cntA (l.take k) DefP.cA0).length = 286 := (DefP.cntA_len _ _).trans DefP.cA0_len
  have hBl : (DefP.cntB (l.take k) DefP.cB0).length = 30 := (DefP.cntB_len _ _).trans DefP.cB0_len
  refine w_region ?_
  refine oV (xI V.sl97 (by exact rdH hRT mm2)) ?_
  refine oV (r_loadA (c := (TK)) V.a109 rfl (by exact rdH hRT mm2) (by omega) (by omega) rfl) ?_
  refine o_alloc V.z109 rfl ?_
  intro b7
  refine o_eff (v_storeAgg V.a109 rfl rfl (us := [_, _, _]) rfl rfl (by exact pp0) (by exact Nat.le_of_ble_eq_true rfl) rfl) ?_
  refine rO TTZfC 6 rfl ?_
  refine oV (v_load V.s3 rfl mm0 rfl) ?_
  refine rO TTZfC 3 rfl ?_
  refine w_condD rfl (fun h23 => ?_) (fun h23 => ?_)
  ·refine rC TTZfC 1 rfl ?_
   have hor2 : 0 ≤ (TK.g l (k : Int)).lit ∧ (TK.g l (k : Int)).lit < 256 := by omega
   have hv : 0 ≤ I3.g (DefP.cntA (l.take k) DefP.cA0) (TK.g l (k : Int)).lit ∧ I3.g (DefP.cntA (l.take k) DefP.cA0) (TK.g l (k : Int)).lit ≤ 8388608 := hgA _
   refine rC TTZfC 3 rfl ?_
   refine oV (v_load V.s3 rfl mm0 rfl) ?_
   refine oV (xI V.sl77 (own mm1)) ?_
   refine oV (xL V.s3 (own mm1)) ?_
   refine rOs TTZfC 1 rfl (by omega) ?_
   refine oV (xI V.sl77 (own mm1)) ?_
   refine o_eff (r_store (c := (I3)) (_) V.s3 rfl rfl rfl (by exact pp1) (by omega) (by omega) rfl rfl) ?_
   refine rOs TTZfC 10 rfl (by omega) ?_
   (rw [incr_row (l := DefP.cntA (l.take k) DefP.cA0) (l' := DefP.cntA (l.take (k + 1)) DefP.cA0) (s := (TK.g l (k : Int)).lit) (by rw [hxe]; exact DefP.cntA_lit hk2 _ (by rw [← hxe]; exact h23)) rfl, DefP.cntB_lit hk2 _ (by rw [← hxe]; exact h23)]; exact j1 (k + 1) ⟨by omega, by omega⟩ (lc5 ln) (sub (.cons rr1 (.cons rr1 (.cons rr1 .nil))) dd1))
  ·refine rC TTZfC 3 rfl ?_
   have hln := DefP.ln_ok (n := (TK.g l (k : Int)).n) (by omega)
   have hds := DefP.ds_ok (f := (TK.g l (k : Int)).far) (by omega)
   have hv : 0 ≤ I3.g (DefP.cntA (l.take k) DefP.cA0) (DefP.lnSm (TK.g l (k : Int)).n) ∧ I3.g (DefP.cntA (l.take k) DefP.cA0) (DefP.lnSm (TK.g l (k : Int)).n) ≤ 8388608 := hgA _
   have hv2 : 0 ≤ I3.g (DefP.cntB (l.take k) DefP.cB0) (DefP.dsSm (TK.g l (k : Int)).far) ∧ I3.g (DefP.cntB (l.take k) DefP.cB0) (DefP.dsSm (TK.g l (k : Int)).far) ≤ 8388608 := hgB _
   refine rC TTZfC 2 rfl ?_
   refine oV (v_load V.s3 rfl mm0 rfl) ?_
   refine o_call (k_length (TK.g l (k : Int)).n (by omega)) V.b89  rfl .nil rfl ?_
   rintro _ _ ⟨rfl, rfl⟩
   refine rO TTZfC 13 rfl ?_
   refine oV (xI V.sl77 (own mm1)) ?_
   refine oV (xL V.s3 (own mm1)) ?_
   refine rOs TTZfC 1 rfl (by omega) ?_
   refine oV (xI V.sl77 (own mm1)) ?_
   refine o_eff (r_store (c := (I3)) (_) V.s3 rfl rfl rfl (by exact pp1) (by omega) (by omega) rfl rfl) ?_
   refine rO TTZfC 5 rfl ?_
   refine oV (v_load V.s3 rfl mm0 rfl) ?_
   refine o_call (k_away (TK.g l (k : Int)).far (by omega)) V.b90  rfl .nil rfl ?_
   rintro _ _ ⟨rfl, rfl⟩
   refine rO TTZfC 10 rfl ?_
   refine oV (xI V.sl77 (own mm2)) ?_
   refine oV (xL V.s3 (own mm2)) ?_
   refine rOs TTZfC 1 rfl (by omega) ?_
   refine oV (xI V.sl77 (own mm2)) ?_
   refine o_eff (r_store (c := (I3)) (_) V.s3 rfl rfl rfl (by exact pp2) (by omega) (by omega) rfl rfl) ?_
   refine rOs TTZfC 7 rfl (by omega) ?_
   (rw [incr_row (l := DefP.cntA (l.take k) DefP.cA0) (l' := DefP.cntA (l.take (k + 1)) DefP.cA0) (s := DefP.lnSm (TK.g l (k : Int)).n) (by rw [hxe]; exact DefP.cntA_cp hk2 _ (by rw [← hxe]; exact h23)) rfl, incr_row (l := DefP.cntB (l.take k) DefP.cB0) (l' := DefP.cntB (l.take (k + 1)) DefP.cB0) (s := DefP.dsSm (TK.g l (k : Int)).far) (by rw [hxe]; exact DefP.cntB_cp hk2 _ (by rw [← hxe]; exact h23)) rfl]; exact j1 (k + 1) ⟨by omega, by omega⟩ (lc5 ln) (sub (.cons rr1 (.cons rr1 (.cons rr1 .nil))) dd1))
 ·refine rC TTZfC 6 rfl ?_
  obtain rfl : k = l.length := by omega
  rw [List.take_length]
  refine rC TTZfC 2 rfl ?_
  refine o_call (k_rareN (some ⟨b11, 0, none⟩) 286 286 (DefP.cntA l DefP.cA0) (DefP.cA_all hl) ((DefP.cntA_len _ _).trans DefP.cA0_len) (by decide)) V.b91  rfl (rz1 .nil) rfl ?_
  rintro _ _ ⟨rfl, rfl⟩
  refine oV (v_move rfl) ?_
  refine o_call (k_rareN (some ⟨b12, 0, none⟩) 30 30 (DefP.cntB l DefP.cB0) (DefP.cB_all hl) ((DefP.cntB_len _ _).trans DefP.cB0_len) (by decide)) V.b91  rfl (.cons rr1 .nil) rfl ?_
  rintro _ _ ⟨rfl, rfl⟩
  refine rO TTZfC 5 rfl ?_
  exact ret_ok (res2 rfl rfl) ⟨b11, b12, rfl, by unfold DefP.fA DefP.fB; rfl⟩ (sub (.cons rr1 (rz2 .nil)) dd0)
end Go.Proofs.YtmbljkghkcgejaaGreat

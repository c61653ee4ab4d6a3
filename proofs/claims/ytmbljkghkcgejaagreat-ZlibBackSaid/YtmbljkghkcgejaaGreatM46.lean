/- Walks of functions that the law reaches, and what they lean on; no conditions. -/
import Derived.Test.YtmbljkghkcgejaaGreatM42
import Derived.Laws.BytesArg
import Derived.Test.YtmbljkghkcgejaaGreatM30
import Derived.Test.YtmbljkghkcgejaaGreatSl22
import Derived.KernelRfl
import Derived.Test.YtmbljkghkcgejaaGreatM45
import Derived.Test.YtmbljkghkcgejaaGreatM33
import Derived.Test.YtmbljkghkcgejaaGreatSl21
import Derived.Test.YtmbljkghkcgejaaGreatM35
set_option linter.unusedVariables false
set_option linter.unusedSimpArgs false
set_option maxRecDepth 100000
namespace Go.Sl
section
variable {C : Ctx} {E : Env} {L : List ae} {ty : TypeId}
theorem AU (l : List Int) : l.flatMap (fun x => [Value.int .u8 x]) = l.map (Value.int .u8) := by
 induction l with
 | nil => rfl
 | cons a l ih => simp [List.flatMap_cons, ih]
theorem nF {T : TypeId} {x : Operand} {src dst e : TypeId} {p : Option Addr} {n cap : Nat} {l : List Int} (hs : C.P.underlying src = some (.slice e)) (he : C.P.underlying e = some (.int .u8)) (hd : C.P.underlying dst = some .string) (hx : ay E x = some (.slice p n cap)) (H : Has C.w0 L (qE T .u8) p n l) : bX C (.convert src dst x) ty E L (.string (strOfNums l)) L :=
 fun d pos aft g a w ha hi => by
  refine ⟨w, .inl ?_, hi, fun h => by cases h⟩
  obtain ⟨R, hm, hR⟩ := H
  have hh := hi.mem hm
  have hlen : l.length = n := Has.len ⟨R, hm, hR⟩ hi
  obtain ⟨e1, e2⟩ := hi.rd hm (fun h hh => (hR h hh).2)
  have hconv : (convert src dst (.slice p n cap)).run C.P w = .ok (.string (strOfNums l)) w := by
   cases p with
   | none =>
    have h0 : n = 0 := by
     rcases e2 with h | ⟨b, o, h, _⟩
     ·exact h
     ·cases h
    have hl : l = [] := List.length_eq_zero_iff.1 (by omega)
    rw [run_convert_bytes_nil w src e hs he n cap dst hd, hl]
    rfl
   | some q =>
    rcases e2 with h | ⟨b, o, h, hc⟩
    ·have hl : l = [] := List.length_eq_zero_iff.1 (by omega)
     subst hl
     subst h
     rw [run_convert_bytes_string w src dst e _ 0 cap hs he hd, run_bytesToString w q 0 cap [] (by simp [loadCells, loadCellsFrom])]
     rfl
    ·cases h
     refine run_convert_bytes_arg w src e hs he b o n cap l hlen (fun i hi2 => ?_) dst hd
     refine hc i _ ?_
     rw [AU]
     have hil : i < l.length := by omega
     simp [List.getElem?_map, List.getD_eq_getElem?_getD, hil]
  simp only [execOp, ha.eval hx, Sem.run_bind, hconv, Result.andThen_ok, Sem.run_pure]
theorem La {x y : Operand} {t t' : TypeId} {s u : ByteArray} {r : Bool} (hx : ay E x = some (.string s)) (hy : ay E y = some (.string u)) (hr : (s.toList == u.toList) = r) : bX C (.binOp .eql t x y t') ty E L (.bool r) L :=
 dR fun d pos aft g a w ha => by
  rw [jo d pos aft g (ha.eval hx) (ha.eval hy) (by simp [eqGuard])]
  simp [binOp, Op.stringOp, ← hr, Sem.run_pure]
theorem tZ {x y : Operand} {t t' : TypeId} {s : ByteArray} (hx : ay E x = some (.string s)) (hy : ay E y = some (.string s)) : bX C (.binOp .eql t x y t') ty E L (.bool true) L := La hx hy (by simp)
end
end Go.Sl
namespace Go.Sl
end Go.Sl
namespace Go.Sl
end Go.Sl
namespace Go.af
theorem kC (n : Int) : IntKind.u8.wrap n = n % 256 := rfl
theorem rb {n : Int} (h0 : 0 ≤ n) (h1 : n < 2 ^ 62) : IntKind.i64.wrap ((BitVec.ofInt IntKind.i64.bits (-1) ^^^ BitVec.ofInt IntKind.i64.bits n).toNat : Int) = -n - 1 := by
 obtain ⟨a, rfl⟩ : ∃ a : Nat, n = (a : Int) := ⟨n.toNat, by omega⟩
 have e : IntKind.i64.bits = 64 := rfl
 have e1 : BitVec.ofInt 64 (-1) = BitVec.allOnes 64 := by decide
 rw [e, e1, BitVec.xor_comm, BitVec.xor_allOnes, BitVec.toNat_not, ep, Nat.mod_eq_of_lt (by omega)]
 have e2 : ∀ m : Int, IntKind.i64.wrap m = if m % 18446744073709551616 ≥ 9223372036854775808 then m % 18446744073709551616 - 18446744073709551616 else m % 18446744073709551616 := fun m => by
  unfold IntKind.wrap
  have s1 : IntKind.i64.signed = true := rfl
  simp only [s1, e, Bool.true_and, decide_eq_true_eq]
  rfl
 rw [e2]
 have : a < 2 ^ 62 := by omega
 split <;> omega
end Go.af
namespace Go.Sl
section
variable {C : Ctx} {E : Env} {L : List ae} {ty : TypeId}
theorem rK {x : Operand} {t : TypeId} {n r : Int} (h : ay E x = some (.int .i64 n)) (e : IntKind.i64.wrap ((BitVec.ofInt IntKind.i64.bits (-1) ^^^ BitVec.ofInt IntKind.i64.bits n).toNat : Int) = r) : bX C (.unOp .xor t x) ty E L (.int .i64 r) L := dR fun d pos aft g a w ha => by
 rw [← e]
 have s1 : IntKind.i64.signed = true := rfl
 simp [execOp, ha.eval h, Op.unary, Op.intBits, s1]
end
end Go.Sl
namespace Go.Proofs.YtmbljkghkcgejaaGreat
open Go.Sl 
theorem ir : dJ Tryz.prog ⟨[22], []⟩ = true := by kernel_rfl
attribute [local irreducible] ad.jl ad.jh aa.fW aa.fX ab.aO ab.ord ab.bx ab.words ab.cF ab.wb ab.fT ab.eC ab.gF ad.cv aa.dW aa.bF
theorem Fk {c : Ec Int} {p : Option Addr} {n cap : Nat} {l : List Int} {R : ae} (hR : ∀ w0 h, R w0 h → bJ c p n l w0 h) (k : Nat) (hk : k ≤ n) : ∀ w0 h, R w0 h → bJ c p k (l.take k) w0 h := fun w0 h hh => by
 have := (hR w0 h hh).sub 0 k n (Nat.zero_le _) hk hk
 rwa [nL, Nat.sub_zero, List.drop_zero] at this
theorem j8 {c : Ec Int} {p : Option Addr} {n : Nat} {l : List Int} {R : ae} (hR : ∀ w0 h, R w0 h → bJ c p n l w0 h) (hl : l.length = n) (k m : Nat) (hk : k ≤ n) (hm : n ≤ m) : ∀ w0 h, R w0 h → bJ c (gK p k m c.sz) (n - k) (l.drop k) w0 h := fun w0 h hh => by
 have := (hR w0 h hh).sub k n m hk (Nat.le_refl _) hm
 rwa [List.take_of_length_le (by rw [List.length_drop]; omega)] at this
set_option maxHeartbeats 4000000 in
theorem Ep (p : Option Addr) (c : Nat) (B : List Int) (R : ae) (hR : ∀ w0 h, R w0 h → bJ U5 p B.length B w0 h) (hl : B.length ≤ 4194304) (hcap : B.length ≤ c) : aD Tryz.prog 59 [.slice p B.length c] [R] (aK fun v G => ∃ q cq, v = .slice q (ad.jh B).length cq ∧ G = [Row U5 q (ad.jh B).length cq (ad.jh B), R]) := by
 refine ax [(0, _)] Tryz.func59 rfl Tryz.ntmps59 rfl rfl ?_
 intro w0 F
 refine rT ir 11 rfl ?_
 refine eW (Row U5 none 0 0 []) (Row.nil _ _ _) ?_
 refine HG (fun (f : Nat) (pz : Option Addr) (cz : Nat) (Z : List Int) (po : Option Addr) (co : Nat) (O : List Int) => [(0, .slice pz Z.length cz), (3, .slice po O.length co)]) (fun (f : Nat) (pz : Option Addr) (cz : Nat) (Z : List Int) (po : Option Addr) (co : Nat) (O : List Int) => Row U5 po O.length co O :: R :: F) (fun (f : Nat) (pz : Option Addr) (cz : Nat) (Z : List Int) (po : Option Addr) (co : Nat) (O : List Int) => O ++ aa.fW (ad.jl f Z) = ad.jh B ∧ Z.length ≤ 65535 * (f + 1) ∧ (∀ w0 h, R w0 h → bJ U5 pz Z.length Z w0 h) ∧ Z.length ≤ cz ∧ O.length + Z.length ≤ 2 * B.length + 5 * (65 - f) ∧ f ≤ 64) (fun (f : Nat) (pz : Option Addr) (cz : Nat) (Z : List Int) (po : Option Addr) (co : Nat) (O : List Int) => f) (i7 (64) (p) (c) (B) (none) (0) ([]) ?_ (kr ln) (sub (aE .nil) ao)) ?_
 ·exact ⟨ad.Ju B, by omega, hR, hcap, by simp; omega, by omega⟩
 intro f pz cz Z po co O
 rintro ⟨hO, hZf, hZR, hZc, hOl, hf⟩
 refine rL ir 1 rfl ?_
 rcases (Nat.lt_or_ge 65535 Z.length) with hZ | hZ
 ·refine rC ir 5 rfl ?_
  refine oV (de (v := .int .i64 65535) (vF rfl rfl) (by rw [if_pos (by omega)])) ?_
  refine oV (gh 65535 cz V.bH rfl ⟨_, rfl⟩ rfl (by omega) (by omega)) ?_
  refine rO ir 8 rfl ?_
  refine oV (fz 65535 Z.length cz V.bH rfl ⟨_, rfl⟩ ⟨rfl, rfl⟩ rfl (by omega) (by omega) (by omega)) ?_
  refine rO ir 13 rfl ?_
  refine oV (bA (cg rfl rfl) (by omega)) ?_
  refine rO ir 17 rfl ?_
  refine oV (bq V.u3 Tryz.underlying5 rfl (af.kC (65535 : Int))) ?_
  refine oV (aB rfl) ?_
  refine oV (dK (r := (65535 : Int) / 256) rfl rfl (by omega) (af.mE (k := 8) (by decide) rfl)) ?_
  refine oV (bq V.u3 Tryz.underlying5 rfl (lE (by omega) (by omega))) ?_
  refine oV (aB rfl) ?_
  refine oV (rK (r := -(65535 : Int) - 1) rfl (af.rb (by omega) (by omega))) ?_
  refine oV (bq V.u3 Tryz.underlying5 rfl ((af.kC _).trans (show (-(65535 : Int) - 1) % 256 = 255 - (65535 : Int) % 256 from by omega))) ?_
  refine oV (aB rfl) ?_
  refine oV (rK (r := -(65535 : Int) - 1) rfl (af.rb (by omega) (by omega))) ?_
  refine oV (dK (r := (-(65535 : Int) - 1) / 256) rfl rfl (by omega) (af.mE (k := 8) (by decide) rfl)) ?_
  refine oV (bq V.u3 Tryz.underlying5 rfl ((af.kC _).trans (show ((-(65535 : Int) - 1) / 256) % 256 = 255 - (65535 : Int) / 256 from by omega))) ?_
  refine bP (U5) [0, (65535 : Int) % 256, (65535 : Int) / 256, 255 - (65535 : Int) % 256, 255 - (65535 : Int) / 256] V.bH V.z5 rfl rfl rfl rfl rfl rfl ?_
  intro JU
  refine bQ (c := (U5)) V.bH V.z5 rfl rfl rfl rfl ar (own ak) (by omega) rfl ?_
  intro p36 c36
  refine rO ir 4 rfl ?_
  have hPR : ∀ w0 h, R w0 h → bJ U5 pz 65535 (Z.take 65535) w0 h := Fk (cap := 0) hZR 65535 (by omega)
  refine rC ir 3 rfl ?_
  refine bQ (c := (U5)) V.bH V.z5 rfl rfl rfl rfl dg (by exact bd hPR dE) (by omega) rfl ?_
  intro p39 c39
  refine rO ir 6 rfl ?_
  refine oV (bA (cg rfl rfl) (by decide)) ?_
  refine rO ir 5 rfl ?_
  obtain ⟨f, rfl⟩ : ∃ f2, f = f2 + 1 := ⟨f - 1, by omega⟩
  have hnx := ad.Fx hO hZ
  have hle : (O ++ [0, (65535 : Int) % 256, (65535 : Int) / 256, 255 - (65535 : Int) % 256, 255 - (65535 : Int) / 256] ++ Z.take 65535).length = O.length + 5 + 65535 := by simp; omega
  have hdl : (Z.drop 65535).length = Z.length - 65535 := List.length_drop
  rw [← hdl, ← hle]
  exact j7 f _ _ (Z.drop 65535) _ _ _ ⟨⟨hnx, by omega, by rw [hdl]; exact j8 hZR rfl 65535 cz (by omega) hZc, by omega, by omega, by omega⟩, by omega⟩ (.cons rfl (.cons rfl (.nil _))) (sub (.cons dg (.cons ar .nil)) cw)
 ·refine rC ir 5 rfl ?_
  refine oV (de (v := .int .i64 (Z.length : Int)) (vF rfl rfl) (by rw [if_neg (by omega)])) ?_
  refine oV (gh Z.length cz V.bH rfl ⟨_, rfl⟩ rfl (by omega) (by omega)) ?_
  refine rO ir 8 rfl ?_
  refine oV (fz Z.length Z.length cz V.bH rfl ⟨_, rfl⟩ ⟨rfl, rfl⟩ rfl (by omega) (by omega) (by omega)) ?_
  refine rO ir 13 rfl ?_
  refine oV (ck (cg rfl rfl) (by omega)) ?_
  refine rO ir 19 rfl ?_
  refine oV (bq V.u3 Tryz.underlying5 rfl (af.kC (Z.length : Int))) ?_
  refine oV (aB rfl) ?_
  refine oV (dK (r := (Z.length : Int) / 256) rfl rfl (by omega) (af.mE (k := 8) (by decide) rfl)) ?_
  refine oV (bq V.u3 Tryz.underlying5 rfl (lE (by omega) (by omega))) ?_
  refine oV (aB rfl) ?_
  refine oV (rK (r := -(Z.length : Int) - 1) rfl (af.rb (by omega) (by omega))) ?_
  refine oV (bq V.u3 Tryz.underlying5 rfl ((af.kC _).trans (show (-(Z.length : Int) - 1) % 256 = 255 - (Z.length : Int) % 256 from by omega))) ?_
  refine oV (aB rfl) ?_
  refine oV (rK (r := -(Z.length : Int) - 1) rfl (af.rb (by omega) (by omega))) ?_
  refine oV (dK (r := (-(Z.length : Int) - 1) / 256) rfl rfl (by omega) (af.mE (k := 8) (by decide) rfl)) ?_
  refine oV (bq V.u3 Tryz.underlying5 rfl ((af.kC _).trans (show ((-(Z.length : Int) - 1) / 256) % 256 = 255 - (Z.length : Int) / 256 from by omega))) ?_
  refine bP (U5) [1, (Z.length : Int) % 256, (Z.length : Int) / 256, 255 - (Z.length : Int) % 256, 255 - (Z.length : Int) / 256] V.bH V.z5 rfl rfl rfl rfl rfl rfl ?_
  intro JU
  refine bQ (c := (U5)) V.bH V.z5 rfl rfl rfl rfl ar (own ak) (by omega) rfl ?_
  intro p36 c36
  refine rO ir 7 rfl ?_
  refine bQ (c := (U5)) V.bH V.z5 rfl rfl rfl rfl dg (by exact bd hZR dE) (by omega) rfl ?_
  intro p39 c39
  refine rO ir 6 rfl ?_
  refine oV (ck (cg rfl rfl) (by decide)) ?_
  refine rO ir 13 rfl ?_
  have hnx := ad.Et hO (by omega)
  have hle : (O ++ [1, (Z.length : Int) % 256, (Z.length : Int) / 256, 255 - (Z.length : Int) % 256, 255 - (Z.length : Int) / 256] ++ Z).length = O.length + 5 + Z.length := by simp; omega
  rw [hnx] at hle
  rw [← hle, hnx]
  exact an (bu rfl) ⟨_, _, rfl, rfl⟩ (sub (au (.cons ar .nil)) cw)
end Go.Proofs.YtmbljkghkcgejaaGreat
namespace Go.Proofs.YtmbljkghkcgejaaGreat
open Go.Sl 
theorem jC : dJ Tryz.prog ⟨[111], [(114, 0, 0)]⟩ = true := by kernel_rfl
attribute [local irreducible] ab.aO ab.ord ab.bx ab.words ab.cF ab.wb ab.fT ab.eC ab.gF ad.cv aa.bF af.aQ ad.lJ ad.lq ad.eN ad.fA ad.fB aJ.mX
abbrev Q2 : Ec (Int × Int) := ⟨110, 2, fun x => [.int .i64 x.1, .int .i64 x.2], (0, 0), fun _ => rfl, fun _ => rfl⟩
theorem Ct (b : Nat) (bs : List Int) (hl : bs.length < 500000000) : aD Tryz.prog 76 [.pointer (some ⟨b, 0, none⟩)] [WB b bs] (aK fun v G => ∃ q c, v = .slice q (ad.lJ bs).length c ∧ G = [Row U5 q (ad.lJ bs).length c (ad.lJ bs)]) := by
 refine (IJ b bs hl).mono ?_
 rintro e G ⟨v, rfl, out, fr, q, c, h1, h2, h3, h4⟩
 have := ad.BM h1 h2
 subst this
 exact ⟨v, rfl, q, c, h3, h4⟩
theorem Ky (x y : Int) (hy : 0 ≤ y ∧ y < 200) : aD Tryz.prog 73 [.int .i64 x, .int .i64 y] [] (aK fun v G => ∃ q c, v = .slice q y.toNat c ∧ G = [Row I3 q y.toNat c (List.replicate y.toNat x)]) := by
 obtain ⟨n, rfl⟩ : ∃ n : Nat, y = (n : Int) := ⟨y.toNat, by omega⟩
 exact FQ x n (by omega)
set_option maxHeartbeats 4000000 in
theorem Ie (q : Option Addr) (cq : Nat) (l : List ad.aZ) (RT : ae) (hRT : ∀ w0 h, RT w0 h → bJ TK q l.length l w0 h) (hok : ∀ t ∈ l, ad.iu t) (hl : l.length ≤ 4194304) : aD Tryz.prog 60 [.slice q l.length cq] [RT] (aK fun v G => ∃ q c, v = .slice q (ad.k7 l).length c ∧ G = [Row U5 q (ad.k7 l).length c (ad.k7 l), RT]) := by
 refine ax [(0, _)] Tryz.func60 rfl Tryz.ntmps60 rfl rfl ?_
 intro w0 F
 refine rT jC 13 rfl ?_
 iterate 4 refine oV (xi V.rf V.ui rfl (cs := [_, _]) rfl) ?_
 refine bP (Q2) aa.fI V.vv V.ui rfl rfl rfl rfl rfl rfl ?_
 intro iV
 refine rO jC 5 rfl ?_
 refine eW (Row I3 none 0 0 (aa.dW 0)) (Row.nil _ _ _) ?_
 refine eJ (fun (k : Nat) (pr : Option Addr) (cr : Nat) => [(0, .slice q l.length cq), (3, .slice pr (aa.dW k).length cr), (11, .slice (some ⟨iV, 0, none⟩) 4 4), (12, .int .i64 4), (13, .int .i64 (k : Int))]) (fun (k : Nat) (pr : Option Addr) (cr : Nat) => Row I3 pr (aa.dW k).length cr (aa.dW k) :: Row Q2 (some ⟨iV, 0, none⟩) 4 4 aa.fI :: RT :: F) (fun (k : Nat) (pr : Option Addr) (cr : Nat) => k ≤ 4) (fun (k : Nat) (pr : Option Addr) (cr : Nat) => 4 - k) (i3 (0) (none) (0) ?_ (aX ln) (sub (dU .nil) ao)) ?_
 ·exact Nat.zero_le _
 intro k pr cr
 rintro hk
 refine rL jC 6 rfl ?_
 refine aj rfl (fun h14 => ?_) (fun h14 => ?_)
 ·refine rC jC 6 rfl ?_
  refine oV (xI V.vv (own bB)) ?_
  refine oV (dQ (c := (Q2)) V.AR rfl (own bB) (by omega) (by omega) rfl) ?_
  refine fR V.ui rfl ?_
  intro b5
  refine bM (fc V.AR rfl rfl (us := [_, _]) rfl rfl (by exact dO) (by exact Nat.le_of_ble_eq_true rfl) rfl) ?_
  refine rO jC 2 rfl ?_
  have hf1 : 0 ≤ (Q2.g aa.fI (k : Int)).2 ∧ (Q2.g aa.fI (k : Int)).2 < 200 := aa.BE (by omega)
  have hf2 := aa.zC k (by omega)
  refine rC jC 2 rfl ?_
  refine oV (eA 0 rfl V.rf rfl rfl (by omega)) ?_
  refine oV (ag V.s3 rfl ak rfl) ?_
  refine oV (eA 1 rfl V.rf rfl rfl (by omega)) ?_
  refine oV (ag V.s3 rfl ak rfl) ?_
  refine ai (Ky (Q2.g aa.fI (k : Int)).1 (Q2.g aa.fI (k : Int)).2 (by omega)) V.L5  rfl .nil rfl ?_
  rintro _ _ ⟨p22, c22, rfl, rfl⟩
  refine bQ (c := (I3)) V.aF V.z3 rfl rfl rfl rfl aS (own ak) (by omega) rfl ?_
  intro p23 c23
  refine bN jC 8 rfl (by omega) ?_
  have hst : aa.dW (k + 1) = aa.dW k ++ List.replicate (Q2.g aa.fI (k : Int)).2.toNat (Q2.g aa.fI (k : Int)).1 := aa.uZ k
  have hsl : (aa.dW (k + 1)).length = (aa.dW k).length + (Q2.g aa.fI (k : Int)).2.toNat := by rw [hst, List.length_append, List.length_replicate]
  rw [← hst, ← hsl]
  refine j3 (k + 1) (_) (_) ?_ (aX ln) (sub (au (.cons aS (.cons aS .nil))) fg)
  exact ⟨by omega, by omega⟩
 ·refine rC jC 6 rfl ?_
  have hk4 : k = 4 := by omega
  have hfl : ab.aO (aa.dW k) = 0 := by rw [hk4, aa.qf]; exact aa.kU
  have hFi : ad.Fits (aa.dW k) (List.replicate 32 5) l := by rw [hk4, aa.qf]; exact ad.FV hok
  have hfx : ad.lJ ([] ++ af.aQ 1 1 ++ af.aQ 1 2 ++ (ad.cv (aa.dW k) (List.replicate 32 5) l ++ ab.wb (aa.dW k) 256)) = ad.k7 l := by rw [hk4, aa.qf, List.nil_append]; rfl
  have hWl : (([] ++ af.aQ 1 1 ++ af.aQ 1 2 ++ (ad.cv (aa.dW k) (List.replicate 32 5) l ++ ab.wb (aa.dW k) 256))).length < 500000000 := by
   have h1 := ad.jG (ab.cM hfl).1 (ab.cM aa.lX).1 (l := l) hok
   have h2 := ab.mB (ab.cM hfl).1 256
   simp only [List.nil_append, List.length_append, af.dH, ab.jM]
   show 1 + 2 + ((ad.cv (aa.dW k) aa.fu l).length + _) < _
   omega
  refine aW ?_
  refine oV (eP V.FD V.JF rfl (cs := [_, _, _, _]) rfl) ?_
  refine fG rfl (cs := [_, _, _, _]) rfl rfl ?_
  intro vn
  refine oV (aB rfl) ?_
  refine ai (FQ 5 32 (by omega)) V.L5  rfl .nil rfl ?_
  rintro _ _ ⟨p28, c28, rfl, rfl⟩
  refine oV (eP V.FL V.Ba rfl (cs := [_, _, _]) rfl) ?_
  refine fR V.Ba rfl ?_
  intro b6
  refine bM (fc V.Bc rfl rfl (us := [_, _, _]) rfl rfl (by exact dO) (by exact Nat.le_of_ble_eq_true rfl) rfl) ?_
  refine rO jC 3 rfl ?_
  refine vB (A := av vn 89 [.slice none 0 0, .slice none 0 0, .int .i64 0, .int .i64 0]) (B := WB vn []) aS (fun h hh => Cd hh) ?_
  refine rC jC 2 rfl ?_
  refine oV (ag V.dw rfl bB rfl) ?_
  refine ai (ld vn [] 1 1 (by decide) (by omega) (by decide)) V.qT  rfl (au .nil) rfl ?_
  rintro _ _ ⟨rfl, rfl⟩
  refine rO jC 5 rfl ?_
  refine oV (ag V.dw rfl bB rfl) ?_
  refine ai (ld vn ([] ++ af.aQ 1 1) 1 2 (by decide) (by omega) (by simp only [List.nil_append, af.dH]; decide)) V.qT  rfl (au .nil) rfl ?_
  rintro _ _ ⟨rfl, rfl⟩
  refine rO jC 4 rfl ?_
  refine oV (nW V.Bc rfl bB (vs := [_, _, _]) rfl rfl) ?_
  refine oV (aB rfl) ?_
  refine ai (yF vn pr (aa.dW k) cr p28 (List.replicate 32 5) c28 q cq l ([] ++ af.aQ 1 1 ++ af.aQ 1 2) RT (Row I3 pr (aa.dW k).length cr (aa.dW k)) (Row I3 p28 32 c28 (List.replicate 32 5)) hRT (fun _ _ hh => kz rfl hh) (fun _ _ hh => kz rfl hh) hfl aa.lX hFi hl (by simp only [List.nil_append, List.length_append, af.dH]; omega)) V.LZ  rfl (au (.cons lh (.cons aS (.cons ar .nil)))) rfl ?_
  rintro _ _ ⟨rfl, rfl⟩
  refine rO jC 5 rfl ?_
  refine oV (ag V.dw rfl iz rfl) ?_
  refine ai (Ct vn ([] ++ af.aQ 1 1 ++ af.aQ 1 2 ++ (ad.cv (aa.dW k) (List.replicate 32 5) l ++ ab.wb (aa.dW k) 256)) hWl) V.Mc  rfl (au .nil) rfl ?_
  rintro _ _ ⟨q41, c41, rfl, rfl⟩
  refine rO jC 4 rfl ?_
  rw [hfx]
  exact an (bu rfl) ⟨q41, c41, rfl, rfl⟩ (sub (aE .nil) kT)
end Go.Proofs.YtmbljkghkcgejaaGreat
namespace Go.Sl
structure Pc where
 w : Int
 p : Option Addr
 n : Nat
 c : Nat
 s : List Int
abbrev PC : Ec Pc := ⟨136, 2, fun x => [.int .i64 x.w, .slice x.p x.n x.c], ⟨0, none, 0, 0, []⟩, fun _ => rfl, fun _ => rfl⟩
structure Sx where
 p : Option Addr
 n : Nat
 c : Nat
abbrev PS : Ec Sx := ⟨134, 1, fun x => [.slice x.p x.n x.c], ⟨none, 0, 0⟩, fun _ => rfl, fun _ => rfl⟩
abbrev QS : Ec Sx := ⟨77, 1, fun x => [.slice x.p x.n x.c], ⟨none, 0, 0⟩, fun _ => rfl, fun _ => rfl⟩
def gC (B : List Pc) : ae := fun w0 h => cA w0 (B.map fun x => Row I3 x.p x.n x.c x.s) h
theorem Row.mono {α : Type} {c : Ec α} {p : Option Addr} {n cap : Nat} {l : List α} {w0 : World} {h h' : Hp} (hl : Hp.le h h') (hh : Row c p n cap l w0 h) : Row c p n cap l w0 h' := by
 refine ⟨hh.1, ?_⟩
 rcases hh.2 with h0 | ⟨b, o, pre, post, e1, e2, e3⟩
 ·exact .inl h0
 ·exact .inr ⟨b, o, pre, post, e1, hl _ _ e2, e3⟩
theorem mU {w0 : World} {A : ae} : ∀ {L : List ae} {h : Hp}, A ∈ L → cA w0 L h → ∃ h1, Hp.le h1 h ∧ A w0 h1
 | [], _, hm, _ => by simp at hm
 | B :: L, h, hm, ⟨h1, h2, d, l1, l2, p, r⟩ => by
  rcases List.mem_cons.1 hm with rfl | hm
  ·exact ⟨h1, l1, p⟩
  ·obtain ⟨h3, l3, q⟩ := mU hm r
   exact ⟨h3, Hp.le_trans l3 l2, q⟩
theorem jm {B : List Pc} {x : Pc} (hx : x ∈ B) (w0 : World) (h : Hp) (hh : gC B w0 h) : bJ I3 x.p x.n x.s w0 h := by
 obtain ⟨h1, l1, q⟩ := mU (List.mem_map.2 ⟨x, hx, rfl⟩) hh
 exact (Row.mono l1 q).rd
theorem x9 {B : List Pc} {x : Pc} {w0 : World} {h : Hp} (hh : cA w0 [Row I3 x.p x.n x.c x.s, gC B] h) : gC (x :: B) w0 h := by
 obtain ⟨h1, h2, d, l1, l2, p, h3, h4, d2, l3, l4, q, _⟩ := hh
 exact ⟨h1, h2, d, l1, l2, p, nD l3 q⟩
theorem Row.cut {α : Type} {c : Ec α} {p : Option Addr} {n cap : Nat} {l : List α} {w0 : World} {h : Hp} (k : Nat) (hk : k ≤ n) (hh : Row c p n cap l w0 h) : Row c p k cap (l.take k) w0 h := by
 obtain ⟨hl, hs⟩ := hh
 refine ⟨by rw [List.length_take]; omega, ?_⟩
 rcases hs with ⟨rfl, rfl, rfl, e⟩ | ⟨b, o, pre, post, e1, e2, e3, e4, e5, e6⟩
 ·have : l = [] := List.length_eq_zero_iff.1 (by omega)
  subst this
  exact .inl ⟨rfl, by omega, rfl, by simp⟩
 ·refine .inr ⟨b, o, pre, (l.drop k).flatMap c.e ++ post, e1, ?_, e3, ?_, ?_, by omega⟩
  ·have e7 : l.flatMap c.e = (l.take k).flatMap c.e ++ (l.drop k).flatMap c.e := by rw [← List.flatMap_append, List.take_append_drop]
   rw [e2, e7]
   simp [List.append_assoc]
  ·rw [jf, List.length_take]; congr 1; omega
  ·rw [List.length_append, jf, List.length_drop, hl]
   have : (cap - k) * c.sz = (n - k) * c.sz + (cap - n) * c.sz := by rw [← Nat.add_mul]; congr 1; omega
   omega
def gM (xs : List Sx) (k : Nat) : Nat := ((xs.take k).map Sx.n).sum
theorem pt (xs : List Sx) : gM xs 0 = 0 := by simp [gM]
theorem ni {xs : List Sx} {k : Nat} (h : k < xs.length) : gM xs (k + 1) = gM xs k + xs[k].n := by
 unfold gM
 rw [List.take_add_one, List.getElem?_eq_getElem h, List.map_append, List.sum_append]
 simp
theorem sP {xs : List Sx} : ∀ {k m : Nat}, k ≤ m → m ≤ xs.length → gM xs k ≤ gM xs m := by
 intro k m hkm
 induction hkm with
 | refl => intro _; exact Nat.le_refl _
 | @step m h ih =>
  intro hm
  have h1 := ih (by omega)
  have h2 := ni (xs := xs) (k := m) hm
  show gM xs k ≤ gM xs (m + 1)
  omega
theorem u4 {α : Type} {ls : List (List α)} {k : Nat} (h : k < ls.length) : (ls.take k).flatten ++ ls.getD k [] = (ls.take (k + 1)).flatten := by
 rw [List.take_add_one, List.getElem?_eq_getElem h, List.flatten_append]
 simp [h]
theorem yT (x : Pc) : Instr.fill (fun i => some (i * 2, 2)) ((List.replicate 1 [.int .i64 0, .slice none 0 0]).flatten.toArray) [(0, .agg #[.int .i64 x.w, .slice x.p x.n x.c])] = some ([x].flatMap PC.e).toArray := by simp [Instr.fill, Value.cells, List.replicate]
def pk (x : Pc) : aJ.Pk := (x.w, x.s)
theorem Eh (w0 : World) (h : Hp) : gC [] w0 h := trivial
def LL (po : Option Addr) (n co : Nat) (A0 : List Pc) (pl : Option Addr) (nl cl : Nat) (l : List Pc) : ae := fun w0 h => (Row PC po n co A0 w0 h ∧ pl = po ∧ nl = n ∧ cl = co ∧ l = A0) ∨ cA w0 [Row PC po n co A0, Row PC pl nl cl l] h
theorem Fy {po : Option Addr} {n co : Nat} {A0 : List Pc} {w0 : World} {h : Hp} (hh : Row PC po n co A0 w0 h) : LL po n co A0 po n co A0 w0 h := .inl ⟨hh, rfl, rfl, rfl, rfl⟩
theorem xk {po pl : Option Addr} {n co nl cl : Nat} {A0 l : List Pc} {w0 : World} {h : Hp} (hh : LL po n co A0 pl nl cl l w0 h) : ∃ h1, Hp.le h1 h ∧ Row PC po n co A0 w0 h1 := by
 rcases hh with ⟨hh, _⟩ | hh
 ·exact ⟨h, fun _ _ e => e, hh⟩
 ·exact mU (by simp) hh
theorem zL {po pl : Option Addr} {n co nl cl : Nat} {A0 l : List Pc} {w0 : World} {h : Hp} (hh : LL po n co A0 pl nl cl l w0 h) : ∃ h1, Hp.le h1 h ∧ Row PC pl nl cl l w0 h1 := by
 rcases hh with ⟨hh, rfl, rfl, rfl, rfl⟩ | hh
 ·exact ⟨h, fun _ _ e => e, hh⟩
 ·exact mU (by simp) hh
theorem Ar {po pl : Option Addr} {n co nl cl : Nat} {A0 l : List Pc} (w0 : World) (h : Hp) (hh : LL po n co A0 pl nl cl l w0 h) : bJ PC po n A0 w0 h := by
 obtain ⟨h1, l1, q⟩ := xk hh
 exact (Row.mono l1 q).rd
theorem EL {po pl : Option Addr} {n co nl cl : Nat} {A0 l : List Pc} (w0 : World) (h : Hp) (hh : LL po n co A0 pl nl cl l w0 h) : bJ PC pl nl l w0 h := by
 obtain ⟨h1, l1, q⟩ := zL hh
 exact (Row.mono l1 q).rd
theorem zi {α : Type} {c : Ec α} {p : Option Addr} {n cap : Nat} {l : List α} {w0 : World} {h : Hp} (hh : Row c p n cap l w0 h) : n ≤ cap := by
 rcases hh.2 with ⟨_, e, e2, _⟩ | ⟨b, o, pre, post, e1, e2, e3, e4, e5, e6⟩
 ·omega
 ·exact e6
theorem JL {po pl : Option Addr} {n co nl cl : Nat} {A0 l : List Pc} (w0 : World) (h : Hp) (hh : LL po n co A0 pl nl cl l w0 h) : nl ≤ cl := by
 obtain ⟨h1, l1, q⟩ := zL hh
 exact zi q
theorem HJ {po pl pq : Option Addr} {n co nl cl nq cq : Nat} {A0 l l2 : List Pc} {w0 : World} {h : Hp} (hh : cA w0 [LL po n co A0 pl nl cl l, Row PC pq nq cq l2] h) : LL po n co A0 pq nq cq l2 w0 h := by
 obtain ⟨h1, h2, d, l1, l2', p, r⟩ := hh
 obtain ⟨h3, l3, q⟩ := xk p
 exact .inr ⟨h1, h2, d, l1, l2', Row.mono l3 q, r⟩
theorem IQ {po pl : Option Addr} {n co nl cl : Nat} {A0 l : List Pc} {X : ae} (w0 : World) (h : Hp) (hh : lK [LL po n co A0 pl nl cl l, X] w0 h) : bJ PC po n A0 w0 h := by
 obtain ⟨h1, l1, p⟩ := mU (A := LL po n co A0 pl nl cl l) (by simp) hh
 obtain ⟨h2, l2, q⟩ := xk p
 exact (Row.mono (Hp.le_trans l2 l1) q).rd
theorem JP {p : Option Addr} {n c : Nat} {o : List Pc} {X : ae} (w0 : World) (h : Hp) (hh : lK [X, Row PC p n c o] w0 h) : bJ PC p n o w0 h := by
 obtain ⟨h1, l1, q⟩ := mU (A := Row PC p n c o) (by simp) hh
 exact (Row.mono l1 q).rd
theorem xD {w0 w : World} {L : List ae} {A : ae} {p : Prop} (hi : Inv w0 L w) (hm : A ∈ L) (hA : ∀ w0 h, A w0 h → p) : p := by
 obtain ⟨F, hi2⟩ := hi.mem hm
 obtain ⟨_, hp, _⟩ := hi2.pS (K := fun _ : Unit => p) (B := fun _ => []) (fun h hh => ⟨(), hA _ _ hh, trivial⟩)
 exact hp
structure vP (fr : List Int) (most : Int) : Prop where
 m1 : 1 ≤ most
 m2 : most ≤ 15
 len : fr.length ≤ 320
 IK : ∀ i, i < fr.length → 0 ≤ fr.getD i 0 ∧ fr.getD i 0 ≤ 1048576
 KL : (aJ.eg fr fr.length).length ≤ 2 ^ most.toNat
theorem CQ : ∀ n : Nat, n < 16 → IntKind.i64.wrap (1 * 2 ^ (min n IntKind.i64.bits)) = ((2 ^ n : Nat) : Int) := by decide
theorem Fq {most : Int} (h : 1 ≤ most ∧ most ≤ 15) : IntKind.i64.wrap (1 * 2 ^ (min most.toNat IntKind.i64.bits)) = ((2 ^ most.toNat : Nat) : Int) := CQ _ (by omega)
theorem Ea {o : List Pc} {fr : List Int} (h : o.map pk = aJ.eg fr fr.length) (h1 : (aJ.eg fr fr.length).length = 1) : ∃ (s : Nat) (w : Int), aJ.eg fr fr.length = [(w, [(s : Int)])] ∧ (PC.g o 0).s = [(s : Int)] ∧ PC.g o 0 ∈ o := by
 have hlen : o.length = 1 := by rw [← h, List.length_map] at h1; exact h1
 match o, hlen with
 | [x], _ =>
  have hm : pk x ∈ aJ.eg fr fr.length := by rw [← h]; simp
  obtain ⟨i, h2, h3, h4⟩ := aJ.jq.1 hm
  refine ⟨i, fr.getD i 0, by rw [← h, ← h4]; rfl, congrArg Prod.snd h4, by simp [Ec.g]⟩
theorem wY {l l' : List Pc} {n : Nat} (h : aV.Rl Pc.w PC.d l l' 0 n) (hn : l.length = n) {x : Pc} (hx : x ∈ l') : x ∈ l := by
 obtain ⟨i, hi, rfl⟩ := List.getElem_of_mem hx
 have hl := h.len
 obtain ⟨j, j1, j2, j3⟩ := h.mem i (Nat.zero_le _) (by omega)
 have e1 : l'.getD i PC.d = l'[i] := by simp [List.getD_eq_getElem?_getD, hi]
 have e2 : l.getD j PC.d = l[j]'(by omega) := by simp [List.getD_eq_getElem?_getD, show j < l.length by omega]
 rw [← e1, j3, e2]
 exact List.getElem_mem _
theorem zn (l : List Pc) (c : Int) : (l.map pk).filter (fun x => decide (x.1 = c)) = (l.filter (fun x => decide (x.w = c))).map pk := by
 rw [List.filter_map]; rfl
theorem F0 {l l' : List Pc} {n : Nat} (hn : l.length = n) (h : aV.Rl Pc.w PC.d l l' 0 n) (hs : aV.Sd Pc.w PC.d l' 0 n) : aJ.SS (l.map pk) (l'.map pk) := by
 have hl := h.len
 refine ⟨?_, fun c => by rw [zn, zn, h.same c]⟩
 refine List.pairwise_map.2 (List.pairwise_iff_getElem.2 (fun i j hi hj hij => ?_))
 have := hs i j (Nat.zero_le _) (Nat.le_of_lt hij) (by omega)
 simpa [List.getD_eq_getElem?_getD, hi, hj, pk] using this
theorem Ak {A0 l : List Pc} {j : Nat} (hA : ∀ x ∈ A0.map pk, 0 ≤ x.1 ∧ x.1 ≤ 1048576 ∧ x.2.length = 1) (hl : l.map pk = aJ.lv (A0.map pk) (j + 1)) (hj : j ≤ 14) : ∀ x ∈ l, 0 ≤ x.w ∧ x.w ≤ 17179869184 ∧ x.s.length ≤ 16384 := by
 intro x hx
 have hm : pk x ∈ aJ.lv (A0.map pk) (j + 1) := by rw [← hl]; exact List.mem_map.2 ⟨x, hx, rfl⟩
 obtain ⟨h1, h2, h3⟩ := aJ.Gp hA j _ hm
 have e1 : (2 : Nat) ^ j ≤ 2 ^ 14 := Nat.pow_le_pow_right (by decide) hj
 have e2 : ((2 : Int) ^ j) = ((2 ^ j : Nat) : Int) := by simp
 rw [e2] at h2
 have h1' : 0 ≤ x.w := h1
 have h2' : x.w ≤ 1048576 * ((2 ^ j : Nat) : Int) := h2
 have h3' : x.s.length ≤ 2 ^ j := h3
 refine ⟨h1', by omega, by omega⟩
theorem KV {s : List Int} {q : Nat} (hq : q < s.length) : I3.g s (q : Int) = s[q] := by simp [Ec.g, hq]
theorem EE {L : Nat} {X s : List Int} {q : Nat} (hq : q < s.length) (h0 : 0 ≤ I3.g s (q : Int) ∧ I3.g s (q : Int) < L) : (aJ.cO L (X ++ s.take q)).set (I3.g s (q : Int)).toNat (I3.g (aJ.cO L (X ++ s.take q)) (I3.g s (q : Int)) + 1) = aJ.cO L (X ++ s.take (q + 1)) := by
 have e : I3.g s (q : Int) = s[q] := by simp [Ec.g, hq]
 have e2 : X ++ s.take (q + 1) = X ++ s.take q ++ [I3.g s (q : Int)] := by rw [List.take_add_one, List.getElem?_eq_getElem hq, e]; simp
 rw [e2, ← aJ.G8 h0.1 h0.2]
 rfl
theorem Kt {L : Nat} {X : List Int} {N : Nat} (hN : X.length ≤ N) (x : Int) : 0 ≤ I3.g (aJ.cO L X) x ∧ I3.g (aJ.cO L X) x ≤ N := by
 have h := aJ.Fz (L := L) (X := X) x.toNat
 have e : I3.g (aJ.cO L X) x = (aJ.cO L X).getD x.toNat 0 := rfl
 rw [e]
 omega
theorem DU {l : List Pc} {i : Nat} (h : i < l.length) : (l.map pk).getD i (0, []) = pk (PC.g l (i : Int)) := by
 simp [Ec.g, h]
theorem HE {l : List Pc} {i : Nat} (h : i < l.length) (hn : (PC.g l (i : Int)).n = (PC.g l (i : Int)).s.length) : aJ.sy (l.map pk) i ++ (PC.g l (i : Int)).s.take (PC.g l (i : Int)).n = aJ.sy (l.map pk) (i + 1) := by
 rw [hn, List.take_length, ← aJ.zA (by simpa using h), DU h]
 rfl
theorem Es {A0 : List Pc} {k : Nat} (h : k < A0.length) : I3.g (PC.g A0 (k : Int)).s 0 = aJ.sm (A0.map pk) k := by
 unfold aJ.sm
 rw [DU h]
 show (PC.g A0 (k : Int)).s.getD 0 0 = (PC.g A0 (k : Int)).s.headD 0
 cases (PC.g A0 (k : Int)).s <;> rfl
theorem MC {A : List aJ.Pk} {most m L k : Nat} (h : 0 ≤ aJ.sm A k ∧ aJ.sm A k < L) : I3.g (aJ.cO L (aJ.sy (aJ.lv A most) m)) (aJ.sm A k) = (aJ.ct A most m k : Int) := aJ.s7 h.1 h.2
theorem Jj {A0 l : List Pc} {L j : Nat} (h : aJ.Lf (A0.map pk)) (hs : ∀ i, i < (A0.map pk).length → 0 ≤ aJ.sm (A0.map pk) i ∧ aJ.sm (A0.map pk) i < L) (hl : l.map pk = aJ.lv (A0.map pk) j) {i q : Nat} (hi : i < l.length) (hq : q < (PC.g l (i : Int)).s.length) : 0 ≤ I3.g (PC.g l (i : Int)).s (q : Int) ∧ I3.g (PC.g l (i : Int)).s (q : Int) < L := by
 have hm : pk (PC.g l (i : Int)) ∈ aJ.lv (A0.map pk) j := by
  rw [← hl, ← DU hi]
  have e : (l.map pk).getD i (0, []) = (l.map pk)[i]'(by simpa using hi) := by simp [hi]
  rw [e]
  exact List.getElem_mem _
 have hin : I3.g (PC.g l (i : Int)).s (q : Int) ∈ (pk (PC.g l (i : Int))).2 := by
  rw [KV hq]
  exact List.getElem_mem _
 obtain ⟨k, hk, e⟩ := aJ.tT h j _ hm _ hin
 rw [e]
 exact hs k hk
theorem FA {A0 : List Pc} {S CO : List Int} {k : Nat} (h : k < A0.length) : (aJ.gI (aJ.sm (A0.map pk)) (fun i => S.getD ((A0.map pk).length - 1 - i) 0) CO k).set (I3.g (PC.g A0 (k : Int)).s 0).toNat (I3.g S (((A0.length : Int) - 1) - (k : Int))) = aJ.gI (aJ.sm (A0.map pk)) (fun i => S.getD ((A0.map pk).length - 1 - i) 0) CO (k + 1) := by
 rw [Es h, aJ.gI]
 have e : I3.g S (((A0.length : Int) - 1) - (k : Int)) = S.getD ((A0.map pk).length - 1 - k) 0 := by
  show S.getD (((A0.length : Int) - 1) - (k : Int)).toNat 0 = _
  rw [List.length_map, show (((A0.length : Int) - 1) - (k : Int)).toNat = A0.length - 1 - k by omega]
 rw [e]
theorem GN {A0 o2 l l2 : List Pc} {j n : Nat} (hS : aJ.lg (A0.map pk)) (hl : l.map pk = aJ.lv (A0.map pk) (j + 1)) (ho : o2.map pk = aJ.fq (l.map pk)) (hn : (A0 ++ o2).length = n) (h : aV.Rl Pc.w PC.d (A0 ++ o2) l2 0 n) (hs : aV.Sd Pc.w PC.d l2 0 n) : l2.map pk = aJ.lv (A0.map pk) (j + 1 + 1) := by
 have h1 := F0 hn h hs
 rw [List.map_append, ho, hl] at h1
 exact h1.eq hS (aJ.rU _ (aJ.x8 hS _))
end Go.Sl

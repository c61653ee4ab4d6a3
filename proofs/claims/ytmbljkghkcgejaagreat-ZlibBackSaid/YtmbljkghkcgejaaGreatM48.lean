/- Walks of functions that the law reaches, and what they lean on; no conditions. -/
import Derived.Test.YtmbljkghkcgejaaGreatM30
import Derived.Test.YtmbljkghkcgejaaGreatSl22
import Derived.KernelRfl
import Derived.Test.YtmbljkghkcgejaaGreatZhR
import Derived.Test.YtmbljkghkcgejaaGreatM37
import Derived.Test.YtmbljkghkcgejaaGreatM35
import Derived.Test.YtmbljkghkcgejaaGreatSl21
import Derived.Shelf.Sort.Plain
set_option linter.unusedVariables false
set_option linter.unusedSimpArgs false
set_option maxRecDepth 100000
namespace Go.Proofs.YtmbljkghkcgejaaGreat
open Go.Sl 
theorem cX : dJ Tryz.prog ⟨[77, 134, 147, 155], []⟩ = true := by kernel_rfl
theorem Ir (n : Nat) (hn : n ≤ 1000000) : aD Tryz.prog 103 [.slice none 0 0, .int .i64 (n : Int)] [] (aK fun v G => ∃ p c, v = .slice p 0 c ∧ G = [Row PC p 0 c []]) := by
 refine ax [(0, _), (1, _)] Tryz.func103 rfl Tryz.ntmps103 rfl rfl ?_
 intro w0 F
 refine rT cX 12 rfl ?_
 refine aj rfl (fun h6 => ?_) (fun h6 => ?_)
 ·exact absurd h6 (by omega)
 ·refine cy cX 11 rfl (by omega) ?_
  refine oV (de (v := .int .i64 (n : Int)) (dD rfl rfl wI) (by simp)) ?_
  refine rO cX 9 rfl ?_
  refine aj rfl (fun h16 => ?_) (fun h16 => ?_)
  ·refine rC cX 4 rfl ?_
   refine oV (gh 0 0 V.df rfl ⟨_, rfl⟩ rfl (by omega) (by omega)) ?_
   refine oV (aB rfl) ?_
   refine xE (Row PC none 0 0 []) (Row.nil _ _ _) ?_
   refine vp (c := (PC)) n V.df Tryz.underlying3 V.nm rfl rfl rfl rfl rfl (own ak) (by omega) (by omega) rfl ?_
   intro p22 c22
   refine rO cX 2 rfl ?_
   refine oV (gh 0 _ V.df rfl ⟨_, rfl⟩ rfl (by omega) (by omega)) ?_
   refine rO cX 10 rfl ?_
   exact an (bu rfl) ⟨p22, c22, rfl, rfl⟩ (fun w0 w hi => ((sub (G := [Row PC p22 (0 + n) c22 ([] ++ List.replicate n PC.d)]) (au .nil) cw : Sub _ (_ ++ F)) w0 w hi).imp (fun h hh => Row.cut 0 (Nat.zero_le _) hh))
  ·refine rC cX 9 rfl ?_
   exact an (bu rfl) ⟨none, 0, rfl, rfl⟩ (cL (fun w0 => Row.nil _ _ _))
theorem GU (n : Nat) (hn : n ≤ 1000000) : aD Tryz.prog 111 [.slice none 0 0, .int .i64 (n : Int)] [] (aK fun v G => ∃ p c, v = .slice p 0 c ∧ G = [Row I3 p 0 c []]) := by
 refine ax [(0, _), (1, _)] Tryz.func111 rfl Tryz.ntmps111 rfl rfl ?_
 intro w0 F
 refine rT cX 12 rfl ?_
 refine aj rfl (fun h6 => ?_) (fun h6 => ?_)
 ·exact absurd h6 (by omega)
 ·refine cy cX 11 rfl (by omega) ?_
  refine oV (de (v := .int .i64 (n : Int)) (dD rfl rfl wI) (by simp)) ?_
  refine rO cX 9 rfl ?_
  refine aj rfl (fun h16 => ?_) (fun h16 => ?_)
  ·refine rC cX 4 rfl ?_
   refine oV (gh 0 0 V.aF rfl ⟨_, rfl⟩ rfl (by omega) (by omega)) ?_
   refine oV (aB rfl) ?_
   refine xE (Row I3 none 0 0 []) (Row.nil _ _ _) ?_
   refine vp (c := (I3)) n V.aF Tryz.underlying3 V.z3 rfl rfl rfl rfl rfl (own ak) (by omega) (by omega) rfl ?_
   intro p22 c22
   refine rO cX 2 rfl ?_
   refine oV (gh 0 _ V.aF rfl ⟨_, rfl⟩ rfl (by omega) (by omega)) ?_
   refine rO cX 10 rfl ?_
   exact an (bu rfl) ⟨p22, c22, rfl, rfl⟩ (fun w0 w hi => ((sub (G := [Row I3 p22 (0 + n) c22 ([] ++ List.replicate n I3.d)]) (au .nil) cw : Sub _ (_ ++ F)) w0 w hi).imp (fun h hh => Row.cut 0 (Nat.zero_le _) hh))
  ·refine rC cX 9 rfl ?_
   exact an (bu rfl) ⟨none, 0, rfl, rfl⟩ (cL (fun w0 => Row.nil _ _ _))
theorem CK (q : Option Addr) (cq : Nat) (xs : List Sx) (ls : List (List Pc)) (A : ae) (hl : ls.length = xs.length) (hA : ∀ k (hk : k < xs.length), ∀ w0 h, A w0 h → bJ PC xs[k].p xs[k].n (ls.getD k []) w0 h) (hx : xs.length ≤ 100) (htot : gM xs xs.length ≤ 1000000) : aD Tryz.prog 94 [.slice q xs.length cq] [Row PS q xs.length cq xs, A] (aK fun v G => ∃ p c, v = .slice p (gM xs xs.length) c ∧ G = [Row PC p (gM xs xs.length) c ls.flatten, A]) := by
 refine ax [(0, _)] Tryz.func94 rfl Tryz.ntmps94 rfl rfl ?_
 intro w0 F
 refine rT cX 19 rfl ?_
 refine cx (fun (k : Nat) => [(0, .slice q xs.length cq), (3, .int .i64 (gM xs k : Int)), (9, .slice q xs.length cq), (10, .int .i64 (xs.length : Int)), (11, .int .i64 (k : Int))]) (fun (k : Nat) => Row PS q xs.length cq xs :: A :: F) (fun (k : Nat) => k ≤ xs.length) (fun (k : Nat) => xs.length - k) (i1 (0) ?_ (aX ln) (sub (aE .nil) ao)) ?_
 ·exact Nat.zero_le _
 intro k
 rintro hk
 refine rL cX 6 rfl ?_
 refine aj rfl (fun h12 => ?_) (fun h12 => ?_)
 ·refine rC cX 5 rfl ?_
  have hk2 : k < xs.length := by omega
  have hgk := PS.s9 hk2
  have hsz := ni hk2
  have hsl := sP (xs := xs) (show k + 1 ≤ xs.length by omega) (Nat.le_refl _)
  refine aW ?_
  refine oV (xI V.AV (own ak)) ?_
  refine oV (xL V.JD (own ak)) ?_
  refine rO cX 4 rfl ?_
  rw [hgk]
  refine cy cX 14 rfl (by omega) ?_
  refine aj rfl (fun h20 => ?_) (fun h20 => ?_)
  ·exact absurd h20 (by omega)
  ·refine cy cX 7 rfl (by omega) ?_
   rw [show (gM xs k : Int) + (xs[k].n : Int) = ((gM xs (k + 1) : Nat) : Int) by omega]
   refine j1 (k + 1) ?_ (aX ln) (sub (aE .nil) ao)
   exact ⟨by omega, by omega⟩
 ·refine rC cX 6 rfl ?_
  obtain rfl : k = xs.length := by omega
  refine rC cX 2 rfl ?_
  refine ai (Ir (gM xs xs.length) (by omega)) V.M3  rfl .nil rfl ?_
  rintro _ _ ⟨p24, pV, rfl, rfl⟩
  refine rO cX 12 rfl ?_
  rw [show Row PC p24 0 pV [] = Row PC p24 (gM xs 0) pV (ls.take 0).flatten from by rw [pt]; simp, show Value.slice p24 0 pV = Value.slice p24 (gM xs 0) pV from by rw [pt]]
  refine eJ (fun (k : Nat) (pn : Option Addr) (cn : Nat) => [(6, .slice pn (gM xs k) cn), (25, .slice q xs.length cq), (26, .int .i64 (xs.length : Int)), (27, .int .i64 (k : Int))]) (fun (k : Nat) (pn : Option Addr) (cn : Nat) => Row PC pn (gM xs k) cn (ls.take k).flatten :: Row PS q xs.length cq xs :: A :: F) (fun (k : Nat) (pn : Option Addr) (cn : Nat) => k ≤ xs.length) (fun (k : Nat) (pn : Option Addr) (cn : Nat) => xs.length - k) (i3 (0) (_) (_) ?_ (dI ln) (sub (dU .nil) ao)) ?_
  ·exact Nat.zero_le _
  intro k pn cn
  rintro hk
  refine rL cX 6 rfl ?_
  refine aj rfl (fun h28 => ?_) (fun h28 => ?_)
  ·refine rC cX 5 rfl ?_
   have hk2 : k < xs.length := by omega
   have hgk := PS.s9 hk2
   have hsz := ni hk2
   have hsl := sP (xs := xs) (show k + 1 ≤ xs.length by omega) (Nat.le_refl _)
   refine aW ?_
   refine oV (xI V.AV (own bB)) ?_
   refine oV (xL V.JD (own bB)) ?_
   refine rO cX 3 rfl ?_
   rw [hgk]
   refine rC cX 3 rfl ?_
   refine bQ (c := (PC)) V.df V.nm rfl rfl rfl rfl dg (by exact bd (hA k hk2) dE) (by omega) rfl ?_
   intro p33 c33
   refine bN cX 8 rfl (by omega) ?_
   rw [← hsz, u4 (by omega)]
   refine j3 (k + 1) (_) (_) ?_ (dI ln) (sub (dU .nil) ao)
   exact ⟨by omega, by omega⟩
  ·refine rC cX 12 rfl ?_
   obtain rfl : k = xs.length := by omega
   rw [show ls.take xs.length = ls from by rw [← hl, List.take_length]]
   exact dT (bu rfl) ⟨pn, cn, rfl, rfl⟩ (sub (au (.cons ar .nil)) cw)
theorem Cp (q : Option Addr) (cq : Nat) (xs : List Sx) (ls : List (List Int)) (A : ae) (hl : ls.length = xs.length) (hA : ∀ k (hk : k < xs.length), ∀ w0 h, A w0 h → bJ I3 xs[k].p xs[k].n (ls.getD k []) w0 h) (hx : xs.length ≤ 100) (htot : gM xs xs.length ≤ 1000000) : aD Tryz.prog 104 [.slice q xs.length cq] [Row QS q xs.length cq xs, A] (aK fun v G => ∃ p c, v = .slice p (gM xs xs.length) c ∧ G = [Row I3 p (gM xs xs.length) c ls.flatten, A]) := by
 refine ax [(0, _)] Tryz.func104 rfl Tryz.ntmps104 rfl rfl ?_
 intro w0 F
 refine rT cX 19 rfl ?_
 refine cx (fun (k : Nat) => [(0, .slice q xs.length cq), (3, .int .i64 (gM xs k : Int)), (9, .slice q xs.length cq), (10, .int .i64 (xs.length : Int)), (11, .int .i64 (k : Int))]) (fun (k : Nat) => Row QS q xs.length cq xs :: A :: F) (fun (k : Nat) => k ≤ xs.length) (fun (k : Nat) => xs.length - k) (i1 (0) ?_ (aX ln) (sub (aE .nil) ao)) ?_
 ·exact Nat.zero_le _
 intro k
 rintro hk
 refine rL cX 6 rfl ?_
 refine aj rfl (fun h12 => ?_) (fun h12 => ?_)
 ·refine rC cX 5 rfl ?_
  have hk2 : k < xs.length := by omega
  have hgk := QS.s9 hk2
  have hsz := ni hk2
  have hsl := sP (xs := xs) (show k + 1 ≤ xs.length by omega) (Nat.le_refl _)
  refine aW ?_
  refine oV (xI V.AZ (own ak)) ?_
  refine oV (xL V.fk (own ak)) ?_
  refine rO cX 4 rfl ?_
  rw [hgk]
  refine cy cX 14 rfl (by omega) ?_
  refine aj rfl (fun h20 => ?_) (fun h20 => ?_)
  ·exact absurd h20 (by omega)
  ·refine cy cX 7 rfl (by omega) ?_
   rw [show (gM xs k : Int) + (xs[k].n : Int) = ((gM xs (k + 1) : Nat) : Int) by omega]
   refine j1 (k + 1) ?_ (aX ln) (sub (aE .nil) ao)
   exact ⟨by omega, by omega⟩
 ·refine rC cX 6 rfl ?_
  obtain rfl : k = xs.length := by omega
  refine rC cX 2 rfl ?_
  refine ai (GU (gM xs xs.length) (by omega)) V.MQ  rfl .nil rfl ?_
  rintro _ _ ⟨p24, pV, rfl, rfl⟩
  refine rO cX 12 rfl ?_
  rw [show Row I3 p24 0 pV [] = Row I3 p24 (gM xs 0) pV (ls.take 0).flatten from by rw [pt]; simp, show Value.slice p24 0 pV = Value.slice p24 (gM xs 0) pV from by rw [pt]]
  refine eJ (fun (k : Nat) (pn : Option Addr) (cn : Nat) => [(6, .slice pn (gM xs k) cn), (25, .slice q xs.length cq), (26, .int .i64 (xs.length : Int)), (27, .int .i64 (k : Int))]) (fun (k : Nat) (pn : Option Addr) (cn : Nat) => Row I3 pn (gM xs k) cn (ls.take k).flatten :: Row QS q xs.length cq xs :: A :: F) (fun (k : Nat) (pn : Option Addr) (cn : Nat) => k ≤ xs.length) (fun (k : Nat) (pn : Option Addr) (cn : Nat) => xs.length - k) (i3 (0) (_) (_) ?_ (dI ln) (sub (dU .nil) ao)) ?_
  ·exact Nat.zero_le _
  intro k pn cn
  rintro hk
  refine rL cX 6 rfl ?_
  refine aj rfl (fun h28 => ?_) (fun h28 => ?_)
  ·refine rC cX 5 rfl ?_
   have hk2 : k < xs.length := by omega
   have hgk := QS.s9 hk2
   have hsz := ni hk2
   have hsl := sP (xs := xs) (show k + 1 ≤ xs.length by omega) (Nat.le_refl _)
   refine aW ?_
   refine oV (xI V.AZ (own bB)) ?_
   refine oV (xL V.fk (own bB)) ?_
   refine rO cX 3 rfl ?_
   rw [hgk]
   refine rC cX 3 rfl ?_
   refine bQ (c := (I3)) V.aF V.z3 rfl rfl rfl rfl dg (by exact bd (hA k hk2) dE) (by omega) rfl ?_
   intro p33 c33
   refine bN cX 8 rfl (by omega) ?_
   rw [← hsz, u4 (by omega)]
   refine j3 (k + 1) (_) (_) ?_ (dI ln) (sub (dU .nil) ao)
   exact ⟨by omega, by omega⟩
  ·refine rC cX 12 rfl ?_
   obtain rfl : k = xs.length := by omega
   rw [show ls.take xs.length = ls from by rw [← hl, List.take_length]]
   exact dT (bu rfl) ⟨pn, cn, rfl, rfl⟩ (sub (au (.cons ar .nil)) cw)
end Go.Proofs.YtmbljkghkcgejaaGreat
namespace Go.Proofs.YtmbljkghkcgejaaGreat
open Go.Sl 
theorem mM : dJ Tryz.prog ⟨[134], [(136, 0, 0)]⟩ = true := by kernel_rfl
theorem sX {α : Type} {c : Ec α} {l : List α} {i : Int} (h : i.toNat < l.length) : c.g l i ∈ l := by
  have e : c.g l i = l[i.toNat] := by simp [Ec.g, h]
  rw [e]
  exact List.getElem_mem h
theorem rh (a b : Sx) : gM [a, b] 2 = a.n + b.n := by simp [gM]
theorem AF (q : Option Addr) (cq : Nat) (p1 : Option Addr) (n1 c1 : Nat) (p2 : Option Addr) (n2 c2 : Nat) (l1 l2 : List Int) (A : ae) (h1 : ∀ w0 h, A w0 h → bJ I3 p1 n1 l1 w0 h) (h2 : ∀ w0 h, A w0 h → bJ I3 p2 n2 l2 w0 h) (hn : n1 + n2 ≤ 1000000) :
    aD Tryz.prog 104 [.slice q 2 cq] [Row QS q 2 cq [Sx.mk p1 n1 c1, Sx.mk p2 n2 c2], A] (aK fun v G => ∃ p c, v = .slice p (n1 + n2) c ∧ G = [Row I3 p (n1 + n2) c (l1 ++ l2), A]) := by
  have h := Cp q cq [Sx.mk p1 n1 c1, Sx.mk p2 n2 c2] [l1, l2] A rfl (fun k hk => by
    match k, hk with
    | 0, _ => exact h1
    | 1, _ => exact h2
    | k + 2, hk => simp at hk; omega) (by simp) (by rw [show [Sx.mk p1 n1 c1, Sx.mk p2 n2 c2].length = 2 from rfl, rh]; exact hn)
  rw [show [Sx.mk p1 n1 c1, Sx.mk p2 n2 c2].length = 2 from rfl, rh, show [l1, l2].flatten = l1 ++ l2 from by simp] at h
  exact h
theorem A9 (q : Option Addr) (cq : Nat) (p1 : Option Addr) (n1 c1 : Nat) (p2 : Option Addr) (n2 c2 : Nat) (l1 l2 : List Pc) (A : ae) (h1 : ∀ w0 h, A w0 h → bJ PC p1 n1 l1 w0 h) (h2 : ∀ w0 h, A w0 h → bJ PC p2 n2 l2 w0 h) (hn : n1 + n2 ≤ 1000000) :
    aD Tryz.prog 94 [.slice q 2 cq] [Row PS q 2 cq [Sx.mk p1 n1 c1, Sx.mk p2 n2 c2], A] (aK fun v G => ∃ p c, v = .slice p (n1 + n2) c ∧ G = [Row PC p (n1 + n2) c (l1 ++ l2), A]) := by
  have h := CK q cq [Sx.mk p1 n1 c1, Sx.mk p2 n2 c2] [l1, l2] A rfl (fun k hk => by
    match k, hk with
    | 0, _ => exact h1
    | 1, _ => exact h2
    | k + 2, hk => simp at hk; omega) (by simp) (by rw [show [Sx.mk p1 n1 c1, Sx.mk p2 n2 c2].length = 2 from rfl, rh]; exact hn)
  rw [show [Sx.mk p1 n1 c1, Sx.mk p2 n2 c2].length = 2 from rfl, rh, show [l1, l2].flatten = l1 ++ l2 from by simp] at h
  exact h
theorem DB {l : List Pc} {k : Nat} (h : 2 * k + 1 < l.length) {o : List Pc} (ho : o.map pk = (aJ.fq (l.map pk)).take k) {x : Pc} (hx : pk x = ((PC.g l (2 * (k : Int))).w + (PC.g l (2 * (k : Int) + 1)).w, (PC.g l (2 * (k : Int))).s ++ (PC.g l (2 * (k : Int) + 1)).s)) : (o ++ [x]).map pk = (aJ.fq (l.map pk)).take (k + 1) := by
  have e1 : (2 * (k : Int)).toNat = 2 * k := by omega
  have e2 : (2 * (k : Int) + 1).toNat = 2 * k + 1 := by omega
  rw [List.map_append, List.map_singleton, ho, aJ.C7 k _ (by simpa using h), hx]
  unfold Ec.g
  rw [e1, e2]
  simp [h, show 2 * k < l.length by omega, pk]
theorem vm (a b : Pc) (S : ae) : aD Tryz.prog 93 [.agg (PC.e a).toArray, .agg (PC.e b).toArray] [S] (aK fun v G => v = .int .i64 (ju a.w b.w) ∧ G = [S]) := by
  refine ax [(0, _), (1, _)] Tryz.func93 rfl Tryz.ntmps93 rfl rfl ?_
  intro w0 F
  refine rT mM 2 rfl ?_
  refine fG rfl (cs := [_, _]) rfl rfl ?_
  intro b2
  refine fG rfl (cs := [_, _]) rfl rfl ?_
  intro b3
  refine rO mM 6 rfl ?_
  refine oV (ag V.s3 rfl bB rfl) ?_
  refine oV (iD V.wX rfl) ?_
  refine oV (ag V.s3 rfl ak rfl) ?_
  refine ai (u0 a.w b.w) V.IW  rfl .nil rfl ?_
  rintro _ _ ⟨rfl, rfl⟩
  refine rO mM 4 rfl ?_
  exact an (bu rfl) ⟨rfl, rfl⟩ (sub (.cons aS .nil) fg)
set_option maxHeartbeats 8000000 in
theorem Fm (p : Option Addr) (c : Nat) (l B : List Pc) (M : Int) (N : Nat) (A : ae) (hRd : ∀ w0 h, A w0 h → bJ PC p l.length l w0 h) (hl : l.length ≤ 1000) (hM : M ≤ 1000000000000) (hN : N ≤ 100000) (hx : ∀ x ∈ l, x ∈ B ∧ x.n = x.s.length ∧ 0 ≤ x.w ∧ x.w ≤ M ∧ x.n ≤ N) : aD Tryz.prog 95 [.slice p l.length c] [A, gC B] (aK fun v G => ∃ p2 c2 o B2, v = .slice p2 (l.length / 2) c2 ∧ (∀ x ∈ B, x ∈ B2) ∧ (∀ x ∈ o, x ∈ B2 ∧ x.n = x.s.length) ∧ o.map pk = aJ.fq (l.map pk) ∧ o.length = l.length / 2 ∧ G = [Row PC p2 (l.length / 2) c2 o, A, gC B2]) := by
  refine ax [(0, _)] Tryz.func95 rfl Tryz.ntmps95 rfl rfl ?_
  intro w0 F
  refine rT mM 17 rfl ?_
  refine eW (Row PC none 0 0 []) (Row.nil _ _ _) ?_
  refine mR (fun (k : Nat) (po : Option Addr) (co : Nat) (o : List Pc) (B2 : List Pc) => [(0, .slice p l.length c), (3, .slice po k co), (4, .int .i64 (2 * (k : Int)))]) (fun (k : Nat) (po : Option Addr) (co : Nat) (o : List Pc) (B2 : List Pc) => Row PC po k co o :: A :: gC B2 :: F) (fun (k : Nat) (po : Option Addr) (co : Nat) (o : List Pc) (B2 : List Pc) => 2 * k ≤ l.length ∧ o.length = k ∧ (∀ x ∈ B, x ∈ B2) ∧ (∀ x ∈ o, x ∈ B2 ∧ x.n = x.s.length) ∧ o.map pk = (aJ.fq (l.map pk)).take k) (fun (k : Nat) (po : Option Addr) (co : Nat) (o : List Pc) (B2 : List Pc) => l.length - k) (i5 (0) (none) (0) ([]) (B) ?_ (fL ln) (sub (dU .nil) ao)) ?_
  ·
    exact ⟨by omega, rfl, fun x h => h, fun x h => by simp at h, by simp⟩
  intro k po co o B2
  rintro ⟨hk, ho, hB, hoB, hoP⟩
  refine uN mM 10 rfl (by omega) ?_
  refine aj rfl (fun h9 => ?_) (fun h9 => ?_)
  ·
    refine rC mM 4 rfl ?_
    have hk2 : 2 * k + 1 < l.length := by omega
    have ha := hx (PC.g l (2 * (k : Int))) (sX (by omega))
    have hb := hx (PC.g l ((2 * (k : Int)) + 1)) (sX (by omega))
    have hma := hB _ ha.1
    have hmb := hB _ hb.1
    refine mL [pz 0 [] [3], pz 0 [] [0], pz 0 [] [4], pz 6 [1, 2] [], pz 14 [3] [], pz 30 [4] [], pz 0 [] [0], pz 0 [] [4], pz 128 [7] [], pz 448 [6, 8] [], pz 960 [9] [], pz 1984 [10] [], pz 4094 [5, 11] [], pz 0 [] [0], pz 0 [] [4], pz 24576 [13, 14] [], pz 57344 [15] [], pz 122880 [16] [], pz 0 [] [0], pz 0 [] [4], pz 524288 [19] [], pz 1835008 [18, 20] [], pz 3932160 [21] [], pz 8126464 [22] [], pz 16769024 [17, 23] [], pz 33546240 [24] [], pz 67108862 [12, 25] [], pz 134217726 [26] [], pz 268435455 [0, 27] [], pz 536870911 [28] []] [⟨fun y => Row PC po k co o, none, some 28, []⟩, ⟨fun y => A, none, none, [3, 5, 9, 11, 15, 17, 21, 23]⟩, ⟨fun y => gC B2, none, some 25, []⟩, ⟨fun y => Row (QS) (some ⟨(cK (bY (y 24))), 0, none⟩) 2 2 [Sx.mk (PC.g l (2 * (k : Int))).p (PC.g l (2 * (k : Int))).n (PC.g l (2 * (k : Int))).c, Sx.mk (PC.g l ((2 * (k : Int)) + 1)).p (PC.g l ((2 * (k : Int)) + 1)).n (PC.g l ((2 * (k : Int)) + 1)).c], some 24, some 25, []⟩, ⟨fun y => Row I3 (bY (y 25)) ((PC.g l (2 * (k : Int))).n + (PC.g l ((2 * (k : Int)) + 1)).n) (fp (y 25)) ((PC.g l (2 * (k : Int))).s ++ (PC.g l ((2 * (k : Int)) + 1)).s), some 25, none, []⟩, ⟨fun y => gC B2, some 25, none, []⟩, ⟨fun y => Row (PC) (some ⟨(cK (bY (y 27))), 0, none⟩) 1 1 [(Pc.mk ((PC.g l (2 * (k : Int))).w + (PC.g l ((2 * (k : Int)) + 1)).w) (bY (y 25)) ((PC.g l (2 * (k : Int))).n + (PC.g l ((2 * (k : Int)) + 1)).n) (fp (y 25)) ((PC.g l (2 * (k : Int))).s ++ (PC.g l ((2 * (k : Int)) + 1)).s))], some 27, none, [28]⟩, ⟨fun y => Row (PC) (bY (y 28)) (k + 1) (fp (y 28)) (o ++ [(Pc.mk ((PC.g l (2 * (k : Int))).w + (PC.g l ((2 * (k : Int)) + 1)).w) (bY (y 25)) ((PC.g l (2 * (k : Int))).n + (PC.g l ((2 * (k : Int)) + 1)).n) (fp (y 25)) ((PC.g l (2 * (k : Int))).s ++ (PC.g l ((2 * (k : Int)) + 1)).s))]), some 28, none, []⟩] F V.mixed (by kernel_rfl) rfl (fun _ => .refl _) (dV _ (dV _ (dV _ (ea _ rfl (by intro y y2 h; simp only [h 24 (.inl rfl)]) (ea _ rfl (by intro y y2 h; simp only [h 25 (.inl rfl)]) (ea _ rfl (by intro y y2 h; rfl) (ea _ rfl (by intro y y2 h; simp only [h 25 (.inr (by decide)), h 27 (.inl rfl)]) (ea _ rfl (by intro y y2 h; simp only [h 25 (.inr (by decide)), h 28 (.inl rfl)]) jb)))))))) ?_
    iterate 3 refine nM ?_
    refine nR (fun y FF hA => xI V.df (by exact bd hRd ak)) ?_
    refine nG V.wX ?_
    refine nR (fun y FF hA => lT (c := (PC)) 0 V.s3 rfl (by exact bd hRd ak) (by omega) (by omega) rfl rfl) ?_
    iterate 2 refine nM ?_
    refine nV (fun y hA L => bU rfl rfl wI) ?_
    refine nR (fun y FF hA => xI V.df (by exact bd hRd ak)) ?_
    refine nG V.wX ?_
    refine nR (fun y FF hA => lT (c := (PC)) 0 V.s3 rfl (by exact bd hRd ak) (by omega) (by omega) rfl rfl) ?_
    refine nV (fun y hA L => bU rfl rfl wI) ?_
    iterate 2 refine nM ?_
    refine nR (fun y FF hA => xI V.df (by exact bd hRd ak)) ?_
    refine nG V.sM ?_
    refine nR (fun y FF hA => lT (c := (PC)) 1 V.fk rfl (by exact bd hRd ak) (by omega) (by omega) rfl rfl) ?_
    iterate 2 refine nM ?_
    refine nV (fun y hA L => bU rfl rfl wI) ?_
    refine nR (fun y FF hA => xI V.df (by exact bd hRd ak)) ?_
    refine nG V.sM ?_
    refine nR (fun y FF hA => lT (c := (PC)) 1 V.fk rfl (by exact bd hRd ak) (by omega) (by omega) rfl rfl) ?_
    refine fD (fun y v => .slice (some ⟨cK (bY v), 0, none⟩) 2 2) (fun y v => True) _ _ (fun y v => [Row (QS) (some ⟨(cK (bY v)), 0, none⟩) 2 2 [Sx.mk (PC.g l (2 * (k : Int))).p (PC.g l (2 * (k : Int))).n (PC.g l (2 * (k : Int))).c, Sx.mk (PC.g l ((2 * (k : Int)) + 1)).p (PC.g l ((2 * (k : Int)) + 1)).n (PC.g l ((2 * (k : Int)) + 1)).c]]) _ (fun y => rfl) (fun y => rfl) (fun y => rfl) (fun y => rfl) (fun y FF hA => kV (nf (QS) ([Sx.mk (PC.g l (2 * (k : Int))).p (PC.g l (2 * (k : Int))).n (PC.g l (2 * (k : Int))).c, Sx.mk (PC.g l ((2 * (k : Int)) + 1)).p (PC.g l ((2 * (k : Int)) + 1)).n (PC.g l ((2 * (k : Int)) + 1)).c]) V.AZ V.NK rfl rfl rfl rfl rfl)) (by intros; rfl) (by intros; rfl) (by intros; rfl) (by intro y y2 h; simp only [h 24 (.inl rfl)]) (by intro y y2 h; rfl) ?_
    refine fD (fun y v => .slice (bY v) ((PC.g l (2 * (k : Int))).n + (PC.g l ((2 * (k : Int)) + 1)).n) (fp v)) (fun y v => True) _ _ (fun y v => [Row I3 (bY v) ((PC.g l (2 * (k : Int))).n + (PC.g l ((2 * (k : Int)) + 1)).n) (fp v) ((PC.g l (2 * (k : Int))).s ++ (PC.g l ((2 * (k : Int)) + 1)).s), gC B2]) _ (fun y => rfl) (fun y => rfl) (fun y => rfl) (fun y => rfl) (fun y FF hA => vb (AF (some ⟨(cK (bY (y 24))), 0, none⟩) 2 (PC.g l (2 * (k : Int))).p (PC.g l (2 * (k : Int))).n (PC.g l (2 * (k : Int))).c (PC.g l ((2 * (k : Int)) + 1)).p (PC.g l ((2 * (k : Int)) + 1)).n (PC.g l ((2 * (k : Int)) + 1)).c (PC.g l (2 * (k : Int))).s (PC.g l ((2 * (k : Int)) + 1)).s (gC B2) (jm hma) (jm hmb) (by omega)) V.MR rfl (.cons ar (au .nil))) (by intros; rfl) (by intros; rfl) (by intros; rfl) (by intro y y2 h; simp only [h 24 (.inr (by decide)), h 25 (.inl rfl)]) (by intro y y2 h; rfl) ?_
    refine aR _ (fun y => rfl) rfl rfl rfl (fun y hA L => cu (de (v := .agg #[.int .i64 ((PC.g l (2 * (k : Int))).w + (PC.g l ((2 * (k : Int)) + 1)).w), .slice (bY (y 25)) ((PC.g l (2 * (k : Int))).n + (PC.g l ((2 * (k : Int)) + 1)).n) (fp (y 25))]) (eP V.Gj V.nm rfl (cs := [_, _]) rfl) rfl) ⟨rfl, rfl⟩) (by intros; rfl) (by intro y y2 h; simp only [h 25 (.inr (by decide))]) ?_
    refine fD (fun y v => .slice (some ⟨cK (bY v), 0, none⟩) 1 1) (fun y v => True) _ _ (fun y v => [Row (PC) (some ⟨(cK (bY v)), 0, none⟩) 1 1 [(Pc.mk ((PC.g l (2 * (k : Int))).w + (PC.g l ((2 * (k : Int)) + 1)).w) (bY (y 25)) ((PC.g l (2 * (k : Int))).n + (PC.g l ((2 * (k : Int)) + 1)).n) (fp (y 25)) ((PC.g l (2 * (k : Int))).s ++ (PC.g l ((2 * (k : Int)) + 1)).s))]]) _ (fun y => rfl) (fun y => rfl) (fun y => rfl) (fun y => rfl) (fun y FF hA => kV (nf (PC) ([(Pc.mk ((PC.g l (2 * (k : Int))).w + (PC.g l ((2 * (k : Int)) + 1)).w) (bY (y 25)) ((PC.g l (2 * (k : Int))).n + (PC.g l ((2 * (k : Int)) + 1)).n) (fp (y 25)) ((PC.g l (2 * (k : Int))).s ++ (PC.g l ((2 * (k : Int)) + 1)).s))]) V.df V.nm rfl rfl rfl (yT (Pc.mk ((PC.g l (2 * (k : Int))).w + (PC.g l ((2 * (k : Int)) + 1)).w) (bY (y 25)) ((PC.g l (2 * (k : Int))).n + (PC.g l ((2 * (k : Int)) + 1)).n) (fp (y 25)) ((PC.g l (2 * (k : Int))).s ++ (PC.g l ((2 * (k : Int)) + 1)).s))) rfl)) (by intros; rfl) (by intros; rfl) (by intros; rfl) (by intro y y2 h; simp only [h 25 (.inr (by decide)), h 27 (.inl rfl)]) (by intro y y2 h; rfl) ?_
    refine fD (fun y v => .slice (bY v) (k + 1) (fp v)) (fun y v => True) _ _ (fun y v => [Row (PC) (bY v) (k + 1) (fp v) (o ++ [(Pc.mk ((PC.g l (2 * (k : Int))).w + (PC.g l ((2 * (k : Int)) + 1)).w) (bY (y 25)) ((PC.g l (2 * (k : Int))).n + (PC.g l ((2 * (k : Int)) + 1)).n) (fp (y 25)) ((PC.g l (2 * (k : Int))).s ++ (PC.g l ((2 * (k : Int)) + 1)).s))])]) _ (fun y => rfl) (fun y => rfl) (fun y => rfl) (fun y => rfl) (fun y FF hA => uo (nC (c := (PC)) V.df V.nm rfl rfl rfl rfl dg (own bB) (by omega)) (.refl _)) (by intros; rfl) (by intros; rfl) (by intros; rfl) (by intro y y2 h; simp only [h 27 (.inr (by decide)), h 28 (.inl rfl)]) (by intro y y2 h; rfl) ?_
    refine aR _ (fun y => rfl) rfl rfl rfl (fun y hA L => cu (cE rfl) ⟨rfl, rfl⟩) (by intros; rfl) (by intro y y2 h; simp only [h 28 (.inr (by decide))]) ?_
    refine aM ?_
    intro y hA
    clear hA
    refine rN mM 2 rfl ?_
    refine bW [(0, .slice p l.length c), (3, .slice (bY (y 28)) (k + 1) (fp (y 28))), (4, .int .i64 (2 * (k : Int)))] (.cons (d := 0) rfl (.cons (d := 3) rfl (.cons (d := 4) rfl (.nil _)))) ?_
    refine bR (M := A :: Row I3 (bY (y 25)) ((PC.g l (2 * (k : Int))).n + (PC.g l ((2 * (k : Int)) + 1)).n) (fp (y 25)) ((PC.g l (2 * (k : Int))).s ++ (PC.g l ((2 * (k : Int)) + 1)).s) :: gC B2 :: Row (PC) (some ⟨(cK (bY (y 27))), 0, none⟩) 1 1 [(Pc.mk ((PC.g l (2 * (k : Int))).w + (PC.g l ((2 * (k : Int)) + 1)).w) (bY (y 25)) ((PC.g l (2 * (k : Int))).n + (PC.g l ((2 * (k : Int)) + 1)).n) (fp (y 25)) ((PC.g l (2 * (k : Int))).s ++ (PC.g l ((2 * (k : Int)) + 1)).s))] :: Row (PC) (bY (y 28)) (k + 1) (fp (y 28)) (o ++ [(Pc.mk ((PC.g l (2 * (k : Int))).w + (PC.g l ((2 * (k : Int)) + 1)).w) (bY (y 25)) ((PC.g l (2 * (k : Int))).n + (PC.g l ((2 * (k : Int)) + 1)).n) (fp (y 25)) ((PC.g l (2 * (k : Int))).s ++ (PC.g l ((2 * (k : Int)) + 1)).s))]) :: F) (fun _ _ h => h) ?_
    generalize (cK (bY (y 24))) = JE
    generalize (bY (y 25)) = q37
    generalize (cK (bY (y 27))) = Kq
    generalize (bY (y 28)) = p40
    generalize (fp (y 28)) = c40
    refine bR (aG (.cons ar (.cons ar .nil)) ao (fun w0 h hh => x9 (x := (Pc.mk ((PC.g l (2 * (k : Int))).w + (PC.g l ((2 * (k : Int)) + 1)).w) q37 ((PC.g l (2 * (k : Int))).n + (PC.g l ((2 * (k : Int)) + 1)).n) (fp (y 25)) ((PC.g l (2 * (k : Int))).s ++ (PC.g l ((2 * (k : Int)) + 1)).s))) hh)) ?_
    refine cy mM 5 rfl (by omega) ?_
    rw [show (2 * (k : Int)) + 2 = 2 * ((k + 1 : Nat) : Int) by omega]
    refine j5 (k + 1) _ _ (o ++ [(Pc.mk ((PC.g l (2 * (k : Int))).w + (PC.g l ((2 * (k : Int)) + 1)).w) q37 ((PC.g l (2 * (k : Int))).n + (PC.g l ((2 * (k : Int)) + 1)).n) (fp (y 25)) ((PC.g l (2 * (k : Int))).s ++ (PC.g l ((2 * (k : Int)) + 1)).s))]) ((Pc.mk ((PC.g l (2 * (k : Int))).w + (PC.g l ((2 * (k : Int)) + 1)).w) q37 ((PC.g l (2 * (k : Int))).n + (PC.g l ((2 * (k : Int)) + 1)).n) (fp (y 25)) ((PC.g l (2 * (k : Int))).s ++ (PC.g l ((2 * (k : Int)) + 1)).s)) :: B2) ?_ (fL ln) (sub (.cons dC (.cons ar (au .nil))) cw)
    refine ⟨⟨by omega, by rw [List.length_append, ho]; simp, fun x h => List.mem_cons_of_mem _ (hB x h), fun x h => ?_, DB hk2 hoP rfl⟩, by omega⟩
    rcases List.mem_append.1 h with h | h
    · exact ⟨List.mem_cons_of_mem _ (hoB x h).1, (hoB x h).2⟩
    · rw [List.mem_singleton.1 h]
      refine ⟨List.mem_cons_self .., ?_⟩
      show _ + _ = (_ ++ _ : List Int).length
      rw [List.length_append, ← ha.2.1, ← hb.2.1]
  ·
    refine rC mM 12 rfl ?_
    have hke : k = l.length / 2 := by omega
    subst hke
    rw [List.take_of_length_le (by rw [aJ.rE, List.length_map]; exact Nat.le_refl _)] at hoP
    exact dT (bu rfl) ⟨po, co, o, B2, rfl, hB, hoB, hoP, ho, rfl⟩ (sub (dU .nil) ao)
end Go.Proofs.YtmbljkghkcgejaaGreat
namespace Go.Proofs.YtmbljkghkcgejaaGreat
open Go.Sl Go.Shelf
def yr : Go.Shelf.Ren := ⟨fun | 189 => 96 | 125 => 106 | 257 => 105 | 128 => 121 | 129 => 122 | 294 => 112 | 295 => 113 | 296 => 114 | 297 => 115 | 298 => 116 | 299 => 117 | 216 => 118 | 300 => 119 | 301 => 120 | 328 => 126 | 329 => 127 | 330 => 128 | 331 => 129 | 332 => 130 | 215 => 108 | 343 => 133 | n => n, fun | 28 => 77 | 3 => 3 | 46 => 38 | 0 => 0 | 51 => 48 | 53 => 167 | 4 => 4 | 183 => 159 | 182 => 158 | 131 => 60 | 5 => 5 | 9 => 9 | 218 => 170 | 222 => 174 | 228 => 176 | 229 => 80 | n => n, fun | n => n⟩
theorem Hk : Go.Proofs.Lays.n189 Tryz.prog yr := {
  mixed := by kernel_rfl
  f125 := Tryz.func106.trans (congrArg some (by kernel_rfl))
  f128 := Tryz.func121.trans (congrArg some (by kernel_rfl))
  f129 := Tryz.func122.trans (congrArg some (by kernel_rfl))
  f189 := Tryz.func96.trans (congrArg some (by kernel_rfl))
  f215 := Tryz.func108.trans (congrArg some (by kernel_rfl))
  f216 := Tryz.func118.trans (congrArg some (by kernel_rfl))
  f257 := Tryz.func105.trans (congrArg some (by kernel_rfl))
  f294 := Tryz.func112.trans (congrArg some (by kernel_rfl))
  f295 := Tryz.func113.trans (congrArg some (by kernel_rfl))
  f296 := Tryz.func114.trans (congrArg some (by kernel_rfl))
  f297 := Tryz.func115.trans (congrArg some (by kernel_rfl))
  f298 := Tryz.func116.trans (congrArg some (by kernel_rfl))
  f299 := Tryz.func117.trans (congrArg some (by kernel_rfl))
  f300 := Tryz.func119.trans (congrArg some (by kernel_rfl))
  f301 := Tryz.func120.trans (congrArg some (by kernel_rfl))
  f328 := Tryz.func126.trans (congrArg some (by kernel_rfl))
  f329 := Tryz.func127.trans (congrArg some (by kernel_rfl))
  f330 := Tryz.func128.trans (congrArg some (by kernel_rfl))
  f331 := Tryz.func129.trans (congrArg some (by kernel_rfl))
  f332 := Tryz.func130.trans (congrArg some (by kernel_rfl))
  f343 := Tryz.func133.trans (congrArg some (by kernel_rfl))
  t0 := Tryz.underlying0
  a0 := Tryz.isAgg0
  z0 := Tryz.sizeOf0
  v0 := Tryz.zeroValue0
  t3 := Tryz.underlying3
  a3 := Tryz.isAgg3
  z3 := Tryz.sizeOf3
  v3 := Tryz.zeroValue3
  t4 := Tryz.underlying4
  a4 := Tryz.isAgg4
  z4 := Tryz.sizeOf4
  v4 := Tryz.zeroValue4
  t5 := Tryz.underlying5
  a5 := Tryz.isAgg5
  z5 := Tryz.sizeOf5
  v5 := Tryz.zeroValue5
  t9 := Tryz.underlying9
  a9 := Tryz.isAgg9
  z9 := Tryz.sizeOf9
  v9 := Tryz.zeroValue9
  t28 := Tryz.underlying77
  a28 := Tryz.isAgg77
  z28 := Tryz.sizeOf77
  v28 := Tryz.zeroValue77
  t46 := Tryz.underlying38
  a46 := Tryz.isAgg38
  z46 := Tryz.sizeOf38
  v46 := Tryz.zeroValue38
  t51 := Tryz.underlying48
  a51 := Tryz.isAgg48
  z51 := Tryz.sizeOf48
  v51 := Tryz.zeroValue48
  t53 := Tryz.underlying167
  a53 := Tryz.isAgg167
  z53 := Tryz.sizeOf167
  v53 := Tryz.zeroValue167
  t131 := Tryz.underlying60
  a131 := Tryz.isAgg60
  z131 := Tryz.sizeOf60
  v131 := Tryz.zeroValue60
  t182 := Tryz.underlying158
  a182 := Tryz.isAgg158
  z182 := Tryz.sizeOf158
  v182 := Tryz.zeroValue158
  t183 := Tryz.underlying159
  a183 := Tryz.isAgg159
  z183 := Tryz.sizeOf159
  v183 := Tryz.zeroValue159
  t218 := Tryz.underlying170
  a218 := Tryz.isAgg170
  z218 := Tryz.sizeOf170
  v218 := Tryz.zeroValue170
  t222 := Tryz.underlying174
  a222 := Tryz.isAgg174
  z222 := Tryz.sizeOf174
  v222 := Tryz.zeroValue174
  t228 := Tryz.underlying176
  a228 := Tryz.isAgg176
  z228 := Tryz.sizeOf176
  v228 := Tryz.zeroValue176
  t229 := Tryz.underlying80
  a229 := Tryz.isAgg80
  z229 := Tryz.sizeOf80
  v229 := Tryz.zeroValue80 }
theorem xq (l : List Int) : l.flatMap (fun x => [Value.int .i64 x]) = l.map (Value.int .i64) := by
  induction l with
  | nil => rfl
  | cons a l ih => simp [List.flatMap_cons, ih]
theorem HD (pre vs post : List Value) (d : List Int) (hd : d.length = vs.length) : Go.Sort.putCells (Value.int .i64) pre.length d.toArray (pre ++ vs ++ post).toArray = (pre ++ d.map (Value.int .i64) ++ post).toArray := by
  apply Array.ext_getElem?
  intro k
  unfold Go.Sort.putCells
  rw [Array.getElem?_mapIdx]
  simp only [List.getElem?_toArray, List.size_toArray]
  rcases Nat.lt_or_ge k pre.length with h1 | h1
  · rw [List.append_assoc, List.getElem?_append_left h1, List.append_assoc, List.getElem?_append_left h1]
    cases pre[k]? with
    | none => rfl
    | some v => simp; omega
  · rcases Nat.lt_or_ge k (pre.length + d.length) with h2 | h2
    · rw [List.append_assoc, List.getElem?_append_right h1, List.getElem?_append_left (by omega), List.append_assoc, List.getElem?_append_right h1, List.getElem?_append_left (by simp; omega)]
      rw [List.getElem?_eq_getElem (by omega : k - pre.length < vs.length), List.getElem?_map, List.getElem?_eq_getElem (by omega : k - pre.length < d.length)]
      simp [h1, h2]
      simp [show k - pre.length < d.length by omega]
    · rw [List.append_assoc, List.getElem?_append_right h1, List.getElem?_append_right (by omega), List.append_assoc, List.getElem?_append_right h1, List.getElem?_append_right (by simp; omega)]
      rw [List.length_map, hd]
      cases post[k - pre.length - vs.length]? with
      | none => rfl
      | some v => simp; omega
theorem G2 (p : Option Addr) (n cap : Nat) (l : List Int) (h0 : 0 < n) (hn : n ≤ 1000000) : aD Tryz.prog 96 [.slice p n cap] [Row I3 p n cap l] (aK fun v G => v = .tuple #[] ∧ G = [Row I3 p n cap (l.mergeSort fun x y => decide (x ≤ y))]) := by
  intro w0 F w hi
  have hl1 : l.length = n := ((own (w0 := w0) (L := Row I3 p n cap l :: F) ak).fact hi).1
  obtain ⟨zz, hzz, hi2⟩ := Inv.pS (Sl.open_ w0) (hi.imp (fun h hh => hh.2))
  cases zz with
  | none => obtain ⟨_, hz, _⟩ := hzz; omega
  | some zz =>
    obtain ⟨b, o, pre, post⟩ := zz
    obtain ⟨rfl, e1, e2, e3, e4⟩ := hzz
    have hf : l.flatMap I3.e = l.map (Value.int .i64) := xq l
    rw [hf] at hi2 e2
    have hi3 : Inv w0 (av b 3 (pre ++ l.map (Value.int .i64) ++ post) :: F) w := hi2
    have hbl := hi3.mq
    have hlt : b < w.heap.size := (Array.getElem?_eq_some_iff.1 hbl).1
    have hH : Go.Sort.Holds (Value.int .i64) w b o l.toArray := by
      intro j hj
      have hj2 : j < l.length := by simpa using hj
      refine ⟨?_, hi3.pG _⟩
      rw [hi3.jU, List.append_assoc, List.getElem?_append_right (by omega), show o + j - pre.length = j by omega, List.getElem?_append_left (by simp; omega), List.getElem?_map, List.getElem?_eq_getElem hj2]
      rw [getElem!_pos l.toArray j (by simpa using hj2)]
      simp
    have hc := Any.slices_Sort_int Hk b o cap l w hH hlt (by omega)
    rw [hl1] at hc
    refine hc.mono ?_
    rintro e w' ⟨rfl, m, os, rfl⟩
    have hsl : (l.mergeSort fun x y => decide (x ≤ y)).length = l.length := List.length_mergeSort _
    refine ⟨[Row I3 (some ⟨b, o, none⟩) n cap (l.mergeSort fun x y => decide (x ≤ y))], ?_, _, rfl, rfl, rfl⟩
    have hw := hi3.write (w' := Go.Sort.grow (Go.Sort.putRow (Value.int .i64) (Go.Sort.ahead w m) b o (l.mergeSort fun x y => decide (x ≤ y)).toArray) os) (cs' := pre ++ (l.mergeSort fun x y => decide (x ≤ y)).map (Value.int .i64) ++ post) rfl rfl rfl (by simp [Go.Sort.ahead]) (by
      rw [Go.Sort.heap_grow_old _ _ (by simpa [Go.Sort.ahead] using hlt)]
      show (w.heap.modify b _)[b]? = _
      rw [Array.getElem?_modify, if_pos rfl, hbl]
      simp only [Option.map_some, Go.Sort.onCells]
      rw [← e1, HD _ _ _ _ (by simp [hsl])]) (fun k hk hks => by
      rw [Go.Sort.heap_grow_old _ _ (by simpa [Go.Sort.ahead] using hks)]
      show (w.heap.modify b _)[k]? = _
      rw [Array.getElem?_modify, if_neg (Ne.symm hk)])
    refine hw.imp (fun h hh => ⟨by rw [hsl, hl1], ?_⟩)
    have hf2 : (l.mergeSort fun x y => decide (x ≤ y)).flatMap I3.e = (l.mergeSort fun x y => decide (x ≤ y)).map (Value.int .i64) := xq _
    rw [hf2]
    exact .inr ⟨b, o, pre, post, rfl, hh, e1, by rw [List.length_map, hsl, hl1]; show n = n * 1; omega, e3, e4⟩
end Go.Proofs.YtmbljkghkcgejaaGreat

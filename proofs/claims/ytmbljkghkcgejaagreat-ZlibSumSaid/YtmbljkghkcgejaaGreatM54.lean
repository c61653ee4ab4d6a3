/- Walks of functions that the law reaches, and what they lean on; no conditions. -/
import Derived.Test.YtmbljkghkcgejaaGreatM30
import Derived.Test.YtmbljkghkcgejaaGreatSl22
import Derived.KernelRfl
import Derived.Test.YtmbljkghkcgejaaGreatM53
import Derived.Test.YtmbljkghkcgejaaGreatSl13
import Derived.Test.YtmbljkghkcgejaaGreatSlLim
import Derived.Test.YtmbljkghkcgejaaGreatM34
set_option linter.unusedVariables false
set_option linter.unusedSimpArgs false
set_option maxRecDepth 100000
namespace Go.Proofs.YtmbljkghkcgejaaGreat
open Go.Sl 
theorem TTZlC : okT Tryz.prog ⟨[22, 30], [(32, 0, 0), (32, 1, 1)]⟩ = true := by kernel_rfl
attribute [local irreducible] DefP.shF InfP.Res DefP.most BitP.Byt
set_option maxHeartbeats 4000000 in
theorem l_make (pb : Option Addr) (cb : Nat) (Ls : List (Td.Ty (.sl 5 (.int .u8)))) (pm : Option Addr) (cm : Nat) (M : List Int) (hM : BitP.Byt M) (hlim : ∀ y ∈ Ls, y.cap ≤ 140737488351232) : Ctr Tryz.prog 10 [.agg #[.slice pb Ls.length cb, .slice pm M.length cm]] [Deep 22 (.sl 5 (.int .u8)) pb Ls.length Ls, RdR U5 pm M.length M] (Ret fun v G => ∃ ok q c out, v = .tuple #[.slice q out.length c, .bool ok] ∧ BitP.Byt out ∧ out.length ≤ 70000 ∧ G = [Row U5 q out.length c out, Deep 22 (.sl 5 (.int .u8)) pb Ls.length Ls, RdR U5 pm M.length M]) := by
 refine spec_of [(0, _)] Tryz.func10 rfl Tryz.ntmps10 rfl rfl ?_
 intro w0 F
 refine rT TTZlC 2 rfl ?_
 refine o_box rfl (cs := [_, _]) rfl rfl ?_
 intro b1
 refine rO TTZlC 9 rfl ?_
 rcases (InfP.or3b (Ls.length ≤ 50) (Ls.length ≤ M.length) (M.length ≤ 100)) with ⟨hl1, hl2, hl3⟩ | ⟨hl1, hl2, hl3⟩ | ⟨hl1, hl2⟩ | hl1
 ·refine rC TTZlC 4 rfl ?_
  refine oV (v_load V.s30 rfl mm0 rfl) ?_
  refine oV (v_len (ty' := 0) Tryz.underlying30 rfl) ?_
  refine oV (v_F (v_gtr rfl rfl) (by omega)) ?_
  refine rO TTZlC 2 rfl ?_
  refine o_want rfl ?_
  refine oV (v_load V.s22 rfl mm0 rfl) ?_
  refine rO TTZlC 2 rfl ?_
  refine o_want rfl ?_
  refine oV (v_load V.s30 rfl mm0 rfl) ?_
  refine o_want rfl ?_
  refine oV (v_len (ty' := 0) Tryz.underlying30 rfl) ?_
  refine o_want rfl ?_
  refine oV (v_F (v_lss rfl rfl) (by omega)) ?_
  refine rO TTZlC 3 rfl ?_
  refine o_want rfl ?_
  refine oV (v_load V.s22 rfl mm0 rfl) ?_
  refine o_want rfl ?_
  refine oV (v_len (ty' := 0) Tryz.underlying22 rfl) ?_
  refine o_want rfl ?_
  refine oV (v_F (v_gtr rfl rfl) (by omega)) ?_
  refine rO TTZlC 13 rfl ?_
  refine w_add0 (Row U5 none 0 0 []) (Row.nil _ _ _) ?_
  refine w_loop4 (fun (i : Nat) (q : Option Addr) (c : Nat) (out : List Int) => [(1, .pointer (some ⟨b1, 0, none⟩)), (4, .slice q out.length c), (5, .int .i64 (i : Int))]) (fun (i : Nat) (q : Option Addr) (c : Nat) (out : List Int) => Row U5 q out.length c out :: Cel b1 32 [.slice pb Ls.length cb, .slice pm M.length cm] :: Deep 22 (.sl 5 (.int .u8)) pb Ls.length Ls :: RdR U5 pm M.length M :: F) (fun (i : Nat) (q : Option Addr) (c : Nat) (out : List Int) => i ≤ Ls.length ∧ BitP.Byt out ∧ out.length ≤ 70000) (fun (i : Nat) (q : Option Addr) (c : Nat) (out : List Int) => Ls.length - i) (i4 (0) (none) (0) ([]) ?_ (lc3 ln) (sub (rz4 .nil) dd0)) ?_
  ·exact ⟨Nat.zero_le _, (by unfold BitP.Byt; intro x hx; cases hx), by decide⟩
  intro i q c out
  rintro ⟨hi, hoB, hol⟩
  refine rL TTZlC 5 rfl ?_
  refine oV (v_load V.s30 rfl mm1 rfl) ?_
  refine rO TTZlC 4 rfl ?_
  refine w_condD rfl (fun h30 => ?_) (fun h30 => ?_)
  ·refine rC TTZlC 5 rfl ?_
   refine w_holds mm2 (fun hD => ?_)
   have hi2 : i < Ls.length := by omega
   have hx3 := hD _ (List.getElem_mem hi2)
   have hgm := (Td.ec 22 (.sl 5 (.int .u8))).g_nat hi2
   rw [← hgm] at hx3
   have hXl : ((Td.ec 22 (.sl 5 (.int .u8))).g Ls (i : Int)).l.length ≤ 140737488351232 := by rw [hgm]; have h1 := (hlim _ (List.getElem_mem hi2)); have h2 := (hx3).1.1; rw [hgm] at h2; exact Nat.le_trans h2 h1
   refine w_add0 (RdR U5 ((Td.ec 22 (.sl 5 (.int .u8))).g Ls (i : Int)).p ((Td.ec 22 (.sl 5 (.int .u8))).g Ls (i : Int)).l.length ((Td.ec 22 (.sl 5 (.int .u8))).g Ls (i : Int)).l) hx3.2.1 ?_
   have hxb : BitP.Byt ((Td.ec 22 (.sl 5 (.int .u8))).g Ls (i : Int)).l := by unfold BitP.Byt; exact fun x hx => byte_in (hx3.2.2 x hx)
   have hmv : 0 ≤ (U5.g M (i : Int)) ∧ (U5.g M (i : Int)) < 256 := BitP.Byt.get hM _
   refine rC TTZlC 5 rfl ?_
   refine w_loop4 (fun (k : Nat) (q2 : Option Addr) (c2 : Nat) (o2 : List Int) => [(1, .pointer (some ⟨b1, 0, none⟩)), (4, .slice q2 o2.length c2), (5, .int .i64 (i : Int)), (6, .int .i64 (k : Int))]) (fun (k : Nat) (q2 : Option Addr) (c2 : Nat) (o2 : List Int) => Row U5 q2 o2.length c2 o2 :: RdR U5 ((Td.ec 22 (.sl 5 (.int .u8))).g Ls (i : Int)).p ((Td.ec 22 (.sl 5 (.int .u8))).g Ls (i : Int)).l.length ((Td.ec 22 (.sl 5 (.int .u8))).g Ls (i : Int)).l :: Cel b1 32 [.slice pb Ls.length cb, .slice pm M.length cm] :: Deep 22 (.sl 5 (.int .u8)) pb Ls.length Ls :: RdR U5 pm M.length M :: F) (fun (k : Nat) (q2 : Option Addr) (c2 : Nat) (o2 : List Int) => k ≤ (U5.g M (i : Int)).toNat ∧ BitP.Byt o2 ∧ o2.length ≤ 70000) (fun (k : Nat) (q2 : Option Addr) (c2 : Nat) (o2 : List Int) => (U5.g M (i : Int)).toNat - k) (i4 (0) (q) (c) (out) ?_ (lc4 ln) (sub (.cons rr1 (rz4 .nil)) dd0)) ?_
   ·exact ⟨Nat.zero_le _, hoB, hol⟩
   intro k q2 c2 o2
   rintro ⟨hk, hoB2, hol2⟩
   refine rL TTZlC 5 rfl ?_
   refine oV (v_load V.s22 rfl mm2 rfl) ?_
   refine oV (v_move rfl) ?_
   refine oV (xI V.sl22 (by exact rdH (fun _ _ h => h) mm4)) ?_
   refine oV (xL V.s5 (by exact rdH (fun _ _ h => h) mm4)) ?_
   refine oV (v_conv V.u5 Tryz.underlying3 rfl wI) ?_
   refine rO TTZlC 3 rfl ?_
   refine w_condD rfl (fun h40 => ?_) (fun h40 => ?_)
   ·refine rC TTZlC 10 rfl ?_
    refine oV (v_load V.s30 rfl mm2 rfl) ?_
    refine oV (v_move rfl) ?_
    refine oV (r_index (c := ((Td.ec 22 (.sl 5 (.int .u8))))) V.sl30 rfl rfl (by exact deepH mm3) (by omega) (by omega)) ?_
    refine oV (r_load (c := ((Td.ec 22 (.sl 5 (.int .u8))))) V.s22 rfl (by exact deepH mm3) (by omega) (by omega) rfl rfl) ?_
    refine rOs TTZlC 5 rfl (by omega) ?_
    refine w_condD rfl (fun h52 => ?_) (fun h52 => ?_)
    ·refine rC TTZlC 17 rfl ?_
     exact ret_ok (res2 rfl rfl) ⟨false, none, 0, [], rfl, (by unfold BitP.Byt; intro x hx; cases hx), by decide, rfl⟩ (Sl.Sub.trans (sub_add0 (A := Row U5 none 0 0 []) (fun w0 => Row.nil U5 w0 _)) (sub (rz1 (.cons rr3 (.cons rr3 .nil))) dd3))
    ·refine rC TTZlC 5 rfl ?_
     refine oV (v_load V.s30 rfl mm2 rfl) ?_
     refine oV (v_move rfl) ?_
     refine oV (r_index (c := ((Td.ec 22 (.sl 5 (.int .u8))))) V.sl30 rfl rfl (by exact deepH mm3) (by omega) (by omega)) ?_
     refine oV (r_load (c := ((Td.ec 22 (.sl 5 (.int .u8))))) V.s22 rfl (by exact deepH mm3) (by omega) (by omega) rfl rfl) ?_
     refine r_append (c := (U5)) V.sl22 V.z5 rfl rfl rfl rfl rr0 (by exact rdH (fun _ _ h => h) mm1) (by omega) rfl ?_
     intro p59 c59
     refine rOs TTZlC 9 rfl (by omega) ?_
     rw [show o2.length + ((Td.ec 22 (.sl 5 (.int .u8))).g Ls (i : Int)).l.length = (o2 ++ ((Td.ec 22 (.sl 5 (.int .u8))).g Ls (i : Int)).l).length from List.length_append.symm]
     exact j4 (k + 1) _ _ (o2 ++ ((Td.ec 22 (.sl 5 (.int .u8))).g Ls (i : Int)).l) ⟨⟨by omega, DefP.Byt.app hoB2 hxb, by rw [List.length_append]; omega⟩, by omega⟩ (lc4 ln) (sub (rz5 .nil) dd0)
   ·refine rCs TTZlC 11 rfl (by omega) ?_
    refine j4 (i + 1) (_) (_) (_) ?_ (lc3 ln) (sub (rz1 (.cons rr1 (.cons rr1 (.cons rr1 .nil)))) dd1)
    exact ⟨⟨by omega, by assumption, by assumption⟩, by omega⟩
  ·refine rC TTZlC 13 rfl ?_
   exact ret_ok (res2 rfl rfl) ⟨true, q, c, out, rfl, hoB, hol, rfl⟩ (sub (rz1 (.cons rr1 (.cons rr1 .nil))) dd1)
 ·refine rC TTZlC 4 rfl ?_
  refine oV (v_load V.s30 rfl mm0 rfl) ?_
  refine oV (v_len (ty' := 0) Tryz.underlying30 rfl) ?_
  refine oV (v_F (v_gtr rfl rfl) (by omega)) ?_
  refine rO TTZlC 2 rfl ?_
  refine o_want rfl ?_
  refine oV (v_load V.s22 rfl mm0 rfl) ?_
  refine rO TTZlC 2 rfl ?_
  refine o_want rfl ?_
  refine oV (v_load V.s30 rfl mm0 rfl) ?_
  refine o_want rfl ?_
  refine oV (v_len (ty' := 0) Tryz.underlying30 rfl) ?_
  refine o_want rfl ?_
  refine oV (v_F (v_lss rfl rfl) (by omega)) ?_
  refine rO TTZlC 3 rfl ?_
  refine o_want rfl ?_
  refine oV (v_load V.s22 rfl mm0 rfl) ?_
  refine o_want rfl ?_
  refine oV (v_len (ty' := 0) Tryz.underlying22 rfl) ?_
  refine o_want rfl ?_
  refine oV (v_T (v_gtr rfl rfl) (by omega)) ?_
  refine rO TTZlC 12 rfl ?_
  exact ret_ok (res2 rfl rfl) ⟨false, none, 0, [], rfl, (by unfold BitP.Byt; intro x hx; cases hx), by decide, rfl⟩ (Sl.Sub.trans (sub_add0 (A := Row U5 none 0 0 []) (fun w0 => Row.nil U5 w0 _)) (sub (rz1 (.cons rr1 (.cons rr1 .nil))) dd1))
 ·refine rC TTZlC 4 rfl ?_
  refine oV (v_load V.s30 rfl mm0 rfl) ?_
  refine oV (v_len (ty' := 0) Tryz.underlying30 rfl) ?_
  refine oV (v_F (v_gtr rfl rfl) (by omega)) ?_
  refine rO TTZlC 2 rfl ?_
  refine o_want rfl ?_
  refine oV (v_load V.s22 rfl mm0 rfl) ?_
  refine rO TTZlC 2 rfl ?_
  refine o_want rfl ?_
  refine oV (v_load V.s30 rfl mm0 rfl) ?_
  refine o_want rfl ?_
  refine oV (v_len (ty' := 0) Tryz.underlying30 rfl) ?_
  refine o_want rfl ?_
  refine oV (v_T (v_lss rfl rfl) (by omega)) ?_
  refine rO TTZlC 18 rfl ?_
  exact ret_ok (res2 rfl rfl) ⟨false, none, 0, [], rfl, (by unfold BitP.Byt; intro x hx; cases hx), by decide, rfl⟩ (Sl.Sub.trans (sub_add0 (A := Row U5 none 0 0 []) (fun w0 => Row.nil U5 w0 _)) (sub (rz1 (.cons rr1 (.cons rr1 .nil))) dd1))
 ·refine rC TTZlC 4 rfl ?_
  refine oV (v_load V.s30 rfl mm0 rfl) ?_
  refine oV (v_len (ty' := 0) Tryz.underlying30 rfl) ?_
  refine oV (v_T (v_gtr rfl rfl) (by omega)) ?_
  refine rO TTZlC 26 rfl ?_
  exact ret_ok (res2 rfl rfl) ⟨false, none, 0, [], rfl, (by unfold BitP.Byt; intro x hx; cases hx), by decide, rfl⟩ (Sl.Sub.trans (sub_add0 (A := Row U5 none 0 0 []) (fun w0 => Row.nil U5 w0 _)) (sub (rz1 (.cons rr1 (.cons rr1 .nil))) dd1))
end Go.Proofs.YtmbljkghkcgejaaGreat
namespace Go.Proofs.YtmbljkghkcgejaaGreat
open Go.Sl 
theorem TTZlD : okT Tryz.prog ⟨[22], []⟩ = true := by kernel_rfl
attribute [local irreducible] DefP.shF InfP.Res DefP.most BitP.Byt ZlP.adl ZlP.adB ZlP.adN
theorem z_openR (p : Option Addr) (c n : Nat) (L : List Int) (hn : L.length = n) (hl : n < 500000000) (hB : BitP.Byt L) (mo : Int) (hm : mo < 500000000) (x : List Int) (e : Int) (hq : ZlP.Opn L mo (x, e)) : Ctr Tryz.prog 8 [.slice p n c, .int .i64 mo] [Row U5 p n c L] (Ret fun v G => ∃ qq cq, v = .tuple #[.slice qq x.length cq, .int .i64 e] ∧ G = [Row U5 qq x.length cq x, Row U5 p n c L]) := fun w0 F w hi => by
 subst hn
 have hcap : L.length ≤ c := by
  obtain ⟨F2, hb, h, a, h1, h2, d, l1, l2, hp, _⟩ := hi.mem (mm0 (L := F))
  rcases hp.2 with ⟨e1, e2, e3, _⟩ | ⟨b, o, pre, post, _, _, _, _, _, e⟩
  ·omega
  ·exact e
 exact z_open p c L (Row U5 p L.length c L) (fun _ _ hh => hh.rd) hcap hl hB mo hm (x, e) hq w0 F w hi
theorem z_closeN (p : Option Addr) (c n : Nat) (B : List Int) (R : HProp) (hR : ∀ w0 h, R w0 h → RdR U5 p n B w0 h) (hn : B.length = n) (hl : n ≤ 4194304) (hB : BitP.Byt B) : Ctr Tryz.prog 11 [.slice p n c] [R] (Ret fun v G => ∃ qq cq, v = .slice qq (ZlP.zS B).length cq ∧ G = [Row U5 qq (ZlP.zS B).length cq (ZlP.zS B), R]) := by
 subst hn
 exact z_close p c B R hR hl hB
set_option maxHeartbeats 2000000 in
theorem l_awake  : Ctr Tryz.prog 7 [] [] (Ret fun v G => v = .bool true ∧ G = []) := by
 refine spec_of [] Tryz.func7 rfl Tryz.ntmps7 rfl rfl ?_
 intro w0 F
 have hab : BitP.Byt ([97, 98, 99] : List Int) := by unfold BitP.Byt; decide
 have hbd := DefP.shF_bd (B := ([97, 98, 99] : List Int)) hab (by decide)
 have hzl := ZlP.zS_len ([97, 98, 99] : List Int)
 refine rT TTZlD 7 rfl ?_
 refine r_build (U5) [120, 1, 3, 0, 0, 0, 0, 1] V.sl22 V.z5 rfl rfl rfl rfl rfl rfl ?_
 intro b6
 refine o_call (z_openR (some ⟨b6, 0, none⟩) 8 8 [120, 1, 3, 0, 0, 0, 0, 1] rfl (by decide) (by unfold BitP.Byt; decide) 0 (by decide) ([] : List Int) 0 ZlP.awake1) V.b8  rfl (rz1 .nil) rfl ?_
 rintro _ _ ⟨q7, c7, rfl, rfl⟩
 refine rO TTZlD 9 rfl ?_
 refine r_build (U5) [97, 98, 99] V.sl22 V.z5 rfl rfl rfl rfl rfl rfl ?_
 intro b11
 refine oV (v_convB (c := U5) Tryz.underlying22 Tryz.underlying5 rfl (by decide) rr0) ?_
 refine o_call (z_closeN (some ⟨b11, 0, none⟩) 3 3 ([97, 98, 99] : List Int) (RdR U5 (some ⟨b11, 0, none⟩) 3 ([97, 98, 99] : List Int)) (fun _ _ hh => hh) rfl (by decide) hab) V.b11  rfl (rz1 .nil) rfl ?_
 rintro _ _ ⟨q13, c13, rfl, rfl⟩
 refine o_call (z_openR q13 c13 (ZlP.zS ([97, 98, 99] : List Int)).length (ZlP.zS ([97, 98, 99] : List Int)) rfl (by omega) (ZlP.zS_byt hab (by decide)) 3 (by decide) ([97, 98, 99] : List Int) 0 (ZlP.opn_zS hab (by decide))) V.b8  rfl (rz1 .nil) rfl ?_
 rintro _ _ ⟨q14, c14, rfl, rfl⟩
 refine rO TTZlD 10 rfl ?_
 refine oV (v_T (v_eql rfl rfl) rfl) ?_
 refine rO TTZlD 3 rfl ?_
 refine o_want rfl ?_
 refine oV (v_T (v_eql rfl rfl) rfl) ?_
 refine rO TTZlD 3 rfl ?_
 refine o_want rfl ?_
 refine oV (v_T (v_eql rfl rfl) rfl) ?_
 refine rO TTZlD 3 rfl ?_
 refine o_want rfl ?_
 refine oV (v_str (T := 5) Tryz.underlying22 Tryz.underlying5 Tryz.underlying9 rfl (own mm0)) ?_
 refine o_want rfl ?_
 refine oV (v_sself (s := strOfNums ([97, 98, 99] : List Int)) rfl rfl) ?_
 refine rO TTZlD 5 rfl ?_
 exact ret_ok (res1 rfl) ⟨rfl, rfl⟩ (sub .nil dd5)
end Go.Proofs.YtmbljkghkcgejaaGreat
namespace Go.Proofs.YtmbljkghkcgejaaGreat
open Go.Sl 
theorem TTZlE : okT Tryz.prog ⟨[22], []⟩ = true := by kernel_rfl
attribute [local irreducible] DefP.shF InfP.Res DefP.most BitP.Byt ZlP.adl ZlP.adB ZlP.adN
def tu0 : Value → Value
 | .tuple a => a[0]?.getD default
 | _ => default
section
variable {C : Ctx} {E : Env} {L F : List HProp} {ops : Array Oper} {d : Option Nat} {ty : TypeId} {pos : String} {aft : Array Edge}
theorem st_callT {α : Type} {c : Ec α} {n : Nat} {l : List α} {u : Value} {f : FuncId} {args : List Operand} {tys : Array TypeId} {vs : List Value} {Pre Post : List HProp} (hS : Ctr C.P f vs Pre (Ret fun v G => ∃ p c', v = .tuple #[.slice p n c', u] ∧ G = Row c p n c' l :: Post)) (hb : bodyB C.P f = true) (hE : evs E args = some vs) (hL : Rems L Pre F) :
  Step C ops ⟨d, .call ⟨.value (.func f), args.toArray, tys⟩, ty, pos, aft, none⟩ E L (fun v L' => v = .tuple #[.slice (slP (tu0 v)) n (slC (tu0 v)), u] ∧ True ∧ L'.Perm ((Row c (slP (tu0 v)) n (slC (tu0 v)) l :: Post) ++ F)) :=
 st_call hS hb hE hL fun v G ⟨p, c', e1, e2⟩ => by subst e1; subst e2; exact ⟨rfl, trivial, .refl _⟩
end
theorem z_openN (p : Option Addr) (c n : Nat) (L : List Int) (R : HProp) (hR : ∀ w0 h, R w0 h → RdR U5 p n L w0 h) (hn : L.length = n) (hcap : n ≤ c) (hl : n < 500000000) (hB : BitP.Byt L) (mo : Int) (hm : mo < 500000000) (x : List Int) (e : Int) (hq : ZlP.Opn L mo (x, e)) : Ctr Tryz.prog 8 [.slice p n c, .int .i64 mo] [R] (Ret fun v G => ∃ qq cq, v = .tuple #[.slice qq x.length cq, .int .i64 e] ∧ G = [Row U5 qq x.length cq x, R]) := by
 subst hn
 exact z_open p c L R hR hcap hl hB mo hm (x, e) hq
set_option maxHeartbeats 8000000 in
theorem l_sum (pb : Option Addr) (cb : Nat) (Ls : List (Td.Ty (.sl 5 (.int .u8)))) (pm : Option Addr) (cm : Nat) (M : List Int) (hM : BitP.Byt M) (hlim : ∀ y ∈ Ls, y.cap ≤ 140737488351232) (N : List Int) (hN : N.length = 2) (hNb : BitP.Byt N) : Ctr Tryz.prog 4 [.agg #[.slice pb Ls.length cb, .slice pm M.length cm], .agg (ints .u8 N).toArray] [Deep 22 (.sl 5 (.int .u8)) pb Ls.length Ls, RdR U5 pm M.length M] (Ret fun v G => v = .bool true ∧ G = [Deep 22 (.sl 5 (.int .u8)) pb Ls.length Ls, RdR U5 pm M.length M]) := by
 refine spec_of [(0, _), (1, _)] Tryz.func4 rfl Tryz.ntmps4 rfl rfl ?_
 intro w0 F
 refine rT TTZlE 2 rfl ?_
 refine o_box rfl (cs := [_, _]) rfl rfl ?_
 intro b2
 refine o_box rfl (agg_ints _ _) rfl ?_
 intro b3
 refine rO TTZlE 6 rfl ?_
 refine o_call (l_awake) V.b7  rfl .nil rfl ?_
 rintro _ _ ⟨rfl, rfl⟩
 refine rO TTZlE 8 rfl ?_
 refine oV (v_loadAgg V.a32 rfl mm1 (vs := [_, _]) rfl rfl) ?_
 refine o_call (l_make pb cb Ls pm cm M hM hlim) V.b10  rfl (.cons rr2 (.cons rr2 .nil)) rfl ?_
 rintro _ _ ⟨ok, q, c, out, rfl, hoB, hol, rfl⟩
 refine rO TTZlE 7 rfl ?_
 rcases (ZlP.ok3 ok out.length) with rfl | ⟨rfl, ho9⟩ | ⟨rfl, ho9⟩
 ·refine rC TTZlE 20 rfl ?_
  exact ret_ok (res1 rfl) ⟨rfl, rfl⟩ (sub (.cons rr1 (.cons rr1 .nil)) dd3)
 ·refine rC TTZlE 8 rfl ?_
  refine o_want rfl ?_
  refine oV (v_T (v_gtr rfl rfl) (by omega)) ?_
  refine rO TTZlE 11 rfl ?_
  exact ret_ok (res1 rfl) ⟨rfl, rfl⟩ (sub (.cons rr1 (.cons rr1 .nil)) dd3)
 ·refine rC TTZlE 8 rfl ?_
  refine o_want rfl ?_
  refine oV (v_F (v_gtr rfl rfl) (by omega)) ?_
  refine rO TTZlE 7 rfl ?_
  have hzl := ZlP.zS_len out
  have hbd := DefP.shF_bd (B := out) hoB (by omega)
  have hg := DefP.gd hoB (by omega)
  have hgm := hg.most
  have hme := DefP.most_eq (n := (out.length : Int)) (by omega)
  refine rC TTZlE 2 rfl ?_
  refine o_call (z_close q c out (Row U5 q out.length c out) (fun _ _ hh => hh.rd) (by omega) hoB) V.b11  rfl (rz1 .nil) rfl ?_
  rintro _ _ ⟨q33, c33, rfl, rfl⟩
  refine rO TTZlE 5 rfl ?_
  refine r_build (U5) [] V.sl22 V.z5 rfl rfl rfl rfl rfl rfl ?_
  intro b34
  refine oV (v_move rfl) ?_
  refine r_append (c := (U5)) V.sl22 V.z5 rfl rfl rfl rfl rr0 (own mm1) (by omega) rfl ?_
  intro p36 c36
  refine rO TTZlE 4 rfl ?_
  have hzB := ZlP.zS_byt hoB (by omega)
  have h0 : 0 ≤ (N.getD ((0 : Int).toNat) 0) ∧ (N.getD ((0 : Int).toNat) 0) < 256 := hNb.get 0
  have h1 : 0 ≤ (N.getD ((1 : Int).toNat) 0) ∧ (N.getD ((1 : Int).toNat) 0) < 256 := hNb.get 1
  obtain ⟨m, hm, hm4⟩ := ZlP.rem4 h0
  refine w_re V.mixed (by kernel_rfl) ?_
  refine rR TTZlE 3 rfl ?_
  refine oR (v_to (v := .int .i64 (((ZlP.zS out).length - 1 : Nat) : Int)) (v_sub rfl rfl wI) (by congr 1; omega)) ?_
  refine oR (v_indexA 0 rfl V.ar33 rfl rfl (by omega)) ?_
  refine oR (a_load (0 : Int) V.s5 rfl mm5 (by (simp only [List.length_cons, List.length_nil]; omega)) (by omega) (by omega)) ?_
  refine oR (v_conv V.u5 Tryz.underlying3 rfl wI) ?_
  refine oR (v_rem (r := (m : Int)) rfl rfl (by decide) ((remI (by omega)).trans hm)) ?_
  refine oR (v_to (v := .int .i64 ((((ZlP.zS out).length - 1 - m) : Nat) : Int)) (v_sub rfl rfl wI) (by congr 1; omega)) ?_
  refine oR (xI V.sl22 (own mm0)) ?_
  refine oR (xL V.s5 (own mm0)) ?_
  refine oR (v_indexA 1 rfl V.ar33 rfl rfl (by omega)) ?_
  refine oR (a_load (1 : Int) V.s5 rfl mm5 (by (simp only [List.length_cons, List.length_nil]; omega)) (by omega) (by omega)) ?_
  refine oR (v_rem (r := (N.getD ((1 : Int).toNat) 0) % 255) rfl rfl (by decide) (remI (by omega))) ?_
  refine oR (v_add rfl rfl (wrap8 (by omega) (by omega))) ?_
  refine oR (v_xor (r := (ZlP.xr (U5.g ([] ++ (ZlP.zS out)) ((((ZlP.zS out).length - 1 - m) : Nat) : Int)) (1 + (N.getD ((1 : Int).toNat) 0) % 255))) rfl rfl rfl) ?_
  refine oR (xI V.sl22 (own mm0)) ?_
  refine Rg.o_nil ?_
  refine o_eff (r_store (c := (U5)) ((ZlP.xr (U5.g ([] ++ (ZlP.zS out)) ((((ZlP.zS out).length - 1 - m) : Nat) : Int)) (1 + (N.getD ((1 : Int).toNat) 0) % 255))) V.s5 rfl rfl rfl (by exact pp0) (by omega) (by omega) rfl rfl) ?_
  refine rO TTZlE 3 rfl ?_
  rw [show List.set ([] ++ (ZlP.zS out)) (((((ZlP.zS out).length - 1 - m) : Nat) : Int)).toNat (ZlP.xr (U5.g ([] ++ (ZlP.zS out)) ((((ZlP.zS out).length - 1 - m) : Nat) : Int)) (1 + (N.getD ((1 : Int).toNat) 0) % 255)) = ((ZlP.zS out).set ((ZlP.zS out).length - 1 - m) (ZlP.xr (U5.g ([] ++ (ZlP.zS out)) ((((ZlP.zS out).length - 1 - m) : Nat) : Int)) (1 + (N.getD ((1 : Int).toNat) 0) % 255))) from rfl]
  have hUg : U5.g ([] ++ (ZlP.zS out)) ((((ZlP.zS out).length - 1 - m) : Nat) : Int) = (ZlP.zS out).getD ((ZlP.zS out).length - 1 - m) 0 := rfl
  obtain ⟨x, hx, hxb, hxn⟩ := ZlP.xr_ex (hzB.get ((ZlP.zS out).length - 1 - m)) (d := 1 + (N.getD ((1 : Int).toNat) 0) % 255) (by omega)
  rw [hUg, hx]
  refine rC TTZlE 4 rfl ?_
  refine o_call (z_openR p36 c36 (0 + (ZlP.zS out).length) ((ZlP.zS out).set ((ZlP.zS out).length - 1 - m) x) (by rw [List.length_set, Nat.zero_add]) (by omega) (ZlP.bad_byt hoB (by omega) hxb) (out.length : Int) (by omega) ([] : List Int) 5 (ZlP.opn_bad hoB (by omega) hm4 hxb hxn)) V.b8  rfl (rz1 .nil) rfl ?_
  rintro _ _ ⟨q58, c58, rfl, rfl⟩
  refine rO TTZlE 8 rfl ?_
  refine w_sub (M := [Row U5 q33 (ZlP.zS out).length c33 (ZlP.zS out), Row U5 q out.length c out, Cel b3 33 (CA [] .u8 N []), Deep 22 (.sl 5 (.int .u8)) pb Ls.length Ls, RdR U5 pm M.length M] ++ F) (sub (.cons rr2 (.cons rr2 (.cons rr4 (.cons rr2 (.cons rr2 .nil))))) dd3) ?_
  simp only [List.cons_append, List.nil_append]
  refine w_net [pz 0 [] [], pz 0 [] [7], pz 3 [0, 1] [], pz 0 [] [3], pz 8 [3] [], pz 24 [4] [], pz 63 [2, 5] [], pz 0 [] [5], pz 128 [7] [], pz 511 [6, 8] [], pz 1023 [9] [], pz 2047 [10] [], pz 2047 [10] [], pz 4095 [11] [], pz 16383 [12] []] [⟨fun y => Row U5 q33 (ZlP.zS out).length c33 (ZlP.zS out), none, none, [2]⟩, ⟨fun y => Row U5 q out.length c out, none, none, []⟩, ⟨fun y => Cel b3 33 (CA [] .u8 N []), none, none, [4]⟩, ⟨fun y => Deep 22 (.sl 5 (.int .u8)) pb Ls.length Ls, none, none, []⟩, ⟨fun y => RdR U5 pm M.length M, none, none, []⟩, ⟨fun y => Row (U5) (some ⟨(blk' (slP (y 0))), 0, none⟩) 0 0 [], some 0, some 2, []⟩, ⟨fun y => Row (U5) (slP (y 2)) (0 + (ZlP.zS out).length) (slC (y 2)) ([] ++ (ZlP.zS out)), some 2, some 6, []⟩, ⟨fun y => Row (U5) (some ⟨(blk' (slP (y 5))), 0, none⟩) 1 1 [(N.getD ((1 : Int).toNat) 0)], some 5, none, [6]⟩, ⟨fun y => Row (U5) (slP (y 6)) ((0 + (ZlP.zS out).length) + 1) (slC (y 6)) (([] ++ (ZlP.zS out)) ++ [(N.getD ((1 : Int).toNat) 0)]), some 6, some 9, []⟩, ⟨fun y => Row U5 (slP (tu0 (y 9))) 0 (slC (tu0 (y 9))) [], some 9, none, []⟩, ⟨fun y => Row (U5) (slP (y 6)) ((0 + (ZlP.zS out).length) + 1) (slC (y 6)) (([] ++ (ZlP.zS out)) ++ [(N.getD ((1 : Int).toNat) 0)]), some 9, none, []⟩] F V.mixed (by kernel_rfl) rfl (fun _ => .refl _) (locT_0 _ (locT_0 _ (locT_0 _ (locT_0 _ (locT_0 _ (locT_1 _ rfl (by intro y y2 h; simp only [h 0 (.inl rfl)]) (locT_1 _ rfl (by intro y y2 h; simp only [h 2 (.inl rfl)]) (locT_1 _ rfl (by intro y y2 h; simp only [h 5 (.inl rfl)]) (locT_1 _ rfl (by intro y y2 h; simp only [h 6 (.inl rfl)]) (locT_1 _ rfl (by intro y y2 h; simp only [h 9 (.inl rfl)]) (locT_1 _ rfl (by intro y y2 h; simp only [h 6 (.inr (by decide))]) locT_nil))))))))))) ?_
  refine net_new (fun y v => .slice (some ⟨blk' (slP v), 0, none⟩) 0 0) (fun y v => True) _ _ (fun y v => [Row (U5) (some ⟨(blk' (slP v)), 0, none⟩) 0 0 []]) _ (fun y => rfl) (fun y => rfl) (fun y => rfl) (fun y => rfl) (fun y FF hA => st_newN (r_buildX (U5) ([]) V.sl22 V.z5 rfl rfl rfl rfl rfl)) (by intros; rfl) (by intros; rfl) (by intros; rfl) (by intro y y2 h; simp only [h 0 (.inl rfl)]) (by intro y y2 h; rfl) ?_
  refine nM ?_
  refine net_new (fun y v => .slice (slP v) (0 + (ZlP.zS out).length) (slC v)) (fun y v => True) _ _ (fun y v => [Row (U5) (slP v) (0 + (ZlP.zS out).length) (slC v) ([] ++ (ZlP.zS out))]) _ (fun y => rfl) (fun y => rfl) (fun y => rfl) (fun y => rfl) (fun y FF hA => st_appN (r_appendX (c := (U5)) V.sl22 V.z5 rfl rfl rfl rfl rr0 (own mm1) (by omega)) (.refl _)) (by intros; rfl) (by intros; rfl) (by intros; rfl) (by intro y y2 h; simp only [h 0 (.inr (by decide)), h 2 (.inl rfl)]) (by intro y y2 h; rfl) ?_
  refine nV (fun y hA L => v_indexA 1 rfl V.ar33 rfl rfl (by omega)) ?_
  refine nR (fun y FF hA => a_load (1 : Int) V.s5 rfl mm0 (by (simp only [List.length_cons, List.length_nil]; omega)) (by omega) (by omega)) ?_
  refine net_new (fun y v => .slice (some ⟨blk' (slP v), 0, none⟩) 1 1) (fun y v => True) _ _ (fun y v => [Row (U5) (some ⟨(blk' (slP v)), 0, none⟩) 1 1 [(N.getD ((1 : Int).toNat) 0)]]) _ (fun y => rfl) (fun y => rfl) (fun y => rfl) (fun y => rfl) (fun y FF hA => st_newN (r_buildX (U5) ([(N.getD ((1 : Int).toNat) 0)]) V.sl22 V.z5 rfl rfl rfl rfl rfl)) (by intros; rfl) (by intros; rfl) (by intros; rfl) (by intro y y2 h; simp only [h 5 (.inl rfl)]) (by intro y y2 h; rfl) ?_
  refine net_new (fun y v => .slice (slP v) ((0 + (ZlP.zS out).length) + 1) (slC v)) (fun y v => True) _ _ (fun y v => [Row (U5) (slP v) ((0 + (ZlP.zS out).length) + 1) (slC v) (([] ++ (ZlP.zS out)) ++ [(N.getD ((1 : Int).toNat) 0)])]) _ (fun y => rfl) (fun y => rfl) (fun y => rfl) (fun y => rfl) (fun y FF hA => st_appN (r_appendX (c := (U5)) V.sl22 V.z5 rfl rfl rfl rfl rr0 (own mm1) (by omega)) (.refl _)) (by intros; rfl) (by intros; rfl) (by intros; rfl) (by intro y y2 h; simp only [h 2 (.inr (by decide)), h 5 (.inr (by decide)), h 6 (.inl rfl)]) (by intro y y2 h; rfl) ?_
  refine nM ?_
  refine nV (fun y hA L => v_len (ty' := 0) Tryz.underlying22 rfl) ?_
  refine net_new (fun y v => .tuple #[.slice (slP (tu0 v)) 0 (slC (tu0 v)), .int .i64 4]) (fun y v => True) _ _ (fun y v => [Row U5 (slP (tu0 v)) 0 (slC (tu0 v)) [], Row (U5) (slP (y 6)) ((0 + (ZlP.zS out).length) + 1) (slC (y 6)) (([] ++ (ZlP.zS out)) ++ [(N.getD ((1 : Int).toNat) 0)])]) _ (fun y => rfl) (fun y => rfl) (fun y => rfl) (fun y => rfl) (fun y FF hA => st_callT (z_openR (slP (y 6)) (slC (y 6)) ((0 + (ZlP.zS out).length) + 1) (([] ++ (ZlP.zS out)) ++ [(N.getD ((1 : Int).toNat) 0)]) (by rw [List.length_append, List.nil_append, Nat.zero_add]; rfl) (by omega) (ZlP.more_byt hoB (by omega) h1) (out.length : Int) (by omega) ([] : List Int) 4 (ZlP.opn_more hoB (by omega) h1)) V.b8 rfl (rz1 .nil)) (by intros; rfl) (by intros; rfl) (by intros; rfl) (by intro y y2 h; simp only [h 6 (.inr (by decide)), h 9 (.inl rfl)]) (by intro y y2 h; rfl) ?_
  refine net_pure _ (fun y => rfl) rfl rfl rfl (fun y hA L => st_v (v_move rfl) ⟨rfl, rfl⟩) (by intros; rfl) (by intro y y2 h; simp only [h 9 (.inr (by decide))]) ?_
  refine net_pure _ (fun y => rfl) rfl rfl rfl (fun y hA L => st_v (v_extract rfl rfl) ⟨rfl, rfl⟩) (by intros; rfl) (by intro y y2 h; simp only [h 9 (.inr (by decide))]) ?_
  refine nV (fun y hA L => v_extract rfl rfl) ?_
  refine net_pure _ (fun y => rfl) rfl rfl rfl (fun y hA L => st_v (v_assign rfl) ⟨rfl, rfl⟩) (by intros; rfl) (by intro y y2 h; simp only [h 9 (.inr (by decide))]) ?_
  refine nA ?_
  refine net_nil ?_
  intro y hA
  clear hA
  refine thn_n ?_
  refine w_keep _ (.cons (d := 3) rfl (.cons (d := 5) rfl (.cons (d := 7) rfl (.cons (d := 10) rfl (.cons (d := 12) rfl (.nil _)))))) ?_
  refine w_sub (M := Row U5 q33 (ZlP.zS out).length c33 (ZlP.zS out) :: Row U5 q out.length c out :: Cel b3 33 (CA [] .u8 N []) :: Deep 22 (.sl 5 (.int .u8)) pb Ls.length Ls :: RdR U5 pm M.length M :: Row (U5) (some ⟨(blk' (slP (y 5))), 0, none⟩) 1 1 [(N.getD ((1 : Int).toNat) 0)] :: Row U5 (slP (tu0 (y 9))) 0 (slC (tu0 (y 9))) [] :: Row (U5) (slP (y 6)) ((0 + (ZlP.zS out).length) + 1) (slC (y 6)) (([] ++ (ZlP.zS out)) ++ [(N.getD ((1 : Int).toNat) 0)]) :: F) (fun _ _ h => h) ?_
  refine w_sub (sub .nil (.keep (.keep (.keep (.keep (.keep (.skip (.skip (.skip .refl))))))))) ?_
  simp only [List.nil_append]
  generalize (blk' (slP (y 0))) = b62
  generalize (slP (y 2)) = p64
  generalize (slC (y 2)) = c64
  generalize (blk' (slP (y 5))) = b67
  generalize (slP (y 6)) = p68
  generalize (slC (y 6)) = c68
  generalize (slP (tu0 (y 9))) = q71
  refine rC TTZlE 5 rfl ?_
  refine oV (v_to (v := .int .i64 (((ZlP.zS out).length - 1 : Nat) : Int)) (v_sub rfl rfl wI) (by congr 1; omega)) ?_
  refine oV (v_indexA 0 rfl V.ar33 rfl rfl (by omega)) ?_
  refine oV (a_load (0 : Int) V.s5 rfl mm2 (by (simp only [List.length_cons, List.length_nil]; omega)) (by omega) (by omega)) ?_
  refine oV (v_conv V.u5 Tryz.underlying3 rfl wI) ?_
  refine oV (v_rem (r := (m : Int)) rfl rfl (by decide) ((remI (by omega)).trans hm)) ?_
  refine oV (v_to (v := .int .i64 ((((ZlP.zS out).length - 1 - m) : Nat) : Int)) (v_sub rfl rfl wI) (by congr 1; omega)) ?_
  refine o_cap (p := q33) (n := (ZlP.zS out).length) (cap := c33) (l := (ZlP.zS out)) (c := U5) mm0 fun hcap => ?_
  refine oV (v_slice0 ((ZlP.zS out).length - 1 - m) c33 V.sl22 rfl ⟨_, rfl⟩ rfl (by omega) (by omega)) ?_
  refine rO TTZlE 2 rfl ?_
  refine o_call (z_openN q33 c33 ((ZlP.zS out).length - 1 - m) ((ZlP.zS out).take ((ZlP.zS out).length - 1 - m)) (Row U5 q33 (ZlP.zS out).length c33 (ZlP.zS out)) (rdr_take (cap := 0) (fun _ _ hh => hh.rd) ((ZlP.zS out).length - 1 - m) (by omega)) (by rw [List.length_take]; omega) (by omega) (by omega) (ZlP.cut_byt hoB (by omega)) (out.length : Int) (by omega) ([] : List Int) 2 (ZlP.opn_cutm hoB (by omega) hm4)) V.b8  rfl (rz1 .nil) rfl ?_
  rintro _ _ ⟨q87, c87, rfl, rfl⟩
  refine rO TTZlE 9 rfl ?_
  refine r_build (U5) [] V.sl22 V.z5 rfl rfl rfl rfl rfl rfl ?_
  intro b90
  refine oV (v_move rfl) ?_
  refine r_append (c := (U5)) V.sl22 V.z5 rfl rfl rfl rfl rr0 (own mm2) (by omega) rfl ?_
  intro p92 c92
  refine rO TTZlE 6 rfl ?_
  refine oV (xI V.sl22 (own mm0)) ?_
  refine o_eff (r_store (c := (U5)) (136) V.s5 rfl rfl rfl (by exact pp0) (by omega) (by omega) rfl rfl) ?_
  refine rO TTZlE 3 rfl ?_
  rw [show List.set ([] ++ (ZlP.zS out)) (0 : Int).toNat 136 = (136 :: 1 :: (DefP.shF out ++ ZlP.adB out)) from ZlP.zS_set1 out]
  refine rC TTZlE 4 rfl ?_
  refine o_call (z_openR p92 c92 (0 + (ZlP.zS out).length) (136 :: 1 :: (DefP.shF out ++ ZlP.adB out)) (by rw [ZlP.zS_hlen, Nat.zero_add]) (by omega) (ZlP.zS_hbyt hoB (by omega) (by decide) (by decide)) (out.length : Int) (by omega) ([] : List Int) 4 (ZlP.opn_head hoB (by omega) _ (.inr ⟨ZlP.hd_136, rfl⟩))) V.b8  rfl (rz1 .nil) rfl ?_
  rintro _ _ ⟨q99, c99, rfl, rfl⟩
  refine rO TTZlE 10 rfl ?_
  refine oV (v_T (v_eql rfl rfl) rfl) ?_
  refine rO TTZlE 2 rfl ?_
  refine o_want rfl ?_
  refine oV (v_T (v_eql rfl rfl) rfl) ?_
  refine rO TTZlE 3 rfl ?_
  refine o_want rfl ?_
  refine oV (v_T (v_eql rfl rfl) rfl) ?_
  refine rO TTZlE 3 rfl ?_
  refine o_want rfl ?_
  refine oV (v_T (v_eql rfl rfl) rfl) ?_
  refine rO TTZlE 5 rfl ?_
  exact ret_ok (res1 rfl) ⟨rfl, rfl⟩ (sub (.cons rr6 (.cons rr6 .nil)) dd6)
end Go.Proofs.YtmbljkghkcgejaaGreat

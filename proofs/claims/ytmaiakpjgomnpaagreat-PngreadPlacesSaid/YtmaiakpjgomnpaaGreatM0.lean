/- Walks of functions that the law reaches, and what they lean on; no conditions. -/
import Derived.KernelRfl
import Derived.Calls
import Derived.Below
import Derived.Tactics
import Derived.Orders
import Derived.Laws.Cells
import Derived.Laws.Entries
import Derived.Laws.Wrap64
import Derived.Laws.AppendOwn
import Derived.Laws.MakeOwn
import Derived.Still
set_option linter.unusedVariables false
set_option linter.unusedSimpArgs false
set_option maxRecDepth 100000
namespace Go.Sl
variable {P Q : Prop}
theorem QV(h:Q→P:=by exact fun h=>rT TT 6 rfl h):Q→P:=h
theorem oM(h:Q→P:=by exact fun h=>rL TT 8 rfl h):Q→P:=h
theorem Q5(h:Q→P:=by exact fun h=>rC TT 4 rfl h):Q→P:=h
theorem Qy(h:Q→P:=by exact fun h=>nV (fun y hA L => eb rfl rfl wI) h):Q→P:=h
theorem l8(h:Q→P:=by exact fun h=>nR (fun y FF hA => xI V.cA (own aA)) h):Q→P:=h
theorem wT(h:Q→P:=by exact fun h=>nR (fun y FF hA => xL V.s3 (own aA)) h):Q→P:=h
theorem vj(h:Q→P:=by exact fun h=>nE (fun y FF hA => dE (nf (c := (I3)) (_) V.s3 rfl rfl rfl (by exact fW) (by omega) (by omega) rfl rfl) ⟨rfl, .refl _⟩) h):Q→P:=h
theorem Qb(h:Q→P:=by exact fun h=>cN h):Q→P:=h
theorem Qo(h:Q→P:=by exact fun h=>dR h):Q→P:=h
theorem Q6(h:Q→P:=by exact fun h=>oV (jm rfl) h):Q→P:=h
theorem rq(h:Q→P:=by exact fun h=>oV (iO rfl) h):Q→P:=h
theorem QB(h:Q→P:=by exact fun h=>rC TT 10 rfl h):Q→P:=h
theorem Q9(h:Q→P:=by exact fun h=>rC TT 1 rfl h):Q→P:=h
theorem vT(h:Q→P:=by exact fun h=>jz TT 8 rfl (by omega) h):Q→P:=h
theorem tG(h:Q→P:=by exact fun h=>iP TT 9 rfl (by omega) h):Q→P:=h
theorem DV(h:Q→P:=by exact fun h=>jz TT 12 rfl (by omega) h):Q→P:=h
theorem Qg(h:Q→P:=by exact fun h=>rC TT 5 rfl h):Q→P:=h
theorem nS(h:Q→P:=by exact fun h=>rC TT 11 rfl h):Q→P:=h
theorem Ej(h:Q→P:=by exact fun h=>ei _ (fun y => rfl) rfl rfl rfl (fun y hA L => gL rfl (dE (jm rfl) ⟨rfl, rfl⟩)) (by intros; rfl) (by intro y y2 h; rfl) h):Q→P:=h
theorem WI(h:Q→P:=by exact fun h=>kM _ _ (fun y => rfl) rfl (fun y => rfl) rfl (fun y FF hA => gL rfl (dE (xI V.cA (own aA)) ⟨rfl, rfl⟩)) (by intros; rfl) (by intro y y2 h; rfl) h):Q→P:=h
theorem WU(h:Q→P:=by exact fun h=>kM _ _ (fun y => rfl) rfl (fun y => rfl) rfl (fun y FF hA => gL rfl (dE (xL V.s3 (own aA)) ⟨rfl, rfl⟩)) (by intros; rfl) (by intro y y2 h; rfl) h):Q→P:=h
theorem WJ(h:Q→P:=by exact fun h=>ei _ (fun y => rfl) rfl rfl rfl (fun y hA L => gL rfl (dE (jX rfl rfl wI) ⟨rfl, rfl⟩)) (by intros; rfl) (by intro y y2 h; rfl) h):Q→P:=h
theorem UW(h:Q→P:=by exact fun h=>ei _ (fun y => rfl) rfl rfl rfl (fun y hA L => gL rfl (dE (dW rfl rfl) ⟨rfl, rfl⟩)) (by intros; rfl) (by intro y y2 h; rfl) h):Q→P:=h
theorem U0(h:Q→P:=by exact fun h=>bD _ (.cons (d := 0) rfl (.cons (d := 1) rfl (.cons (d := 2) rfl (.cons (d := 3) rfl (.cons (d := 8) rfl (.cons (d := 9) rfl (.cons (d := 34) rfl (.nil _)))))))) h):Q→P:=h
theorem vF(h:Q→P:=by exact fun h=>nV (fun y hA L => jX rfl rfl wI) h):Q→P:=h
theorem jA(h:Q→P:=by exact fun h=>ei _ (fun y => rfl) rfl rfl rfl (fun y hA L => KW rfl rfl ⟨rfl, rfl⟩) (by intros; rfl) (by intro y y2 h; rfl) h):Q→P:=h
theorem Ed(h:Q→P:=by exact fun h=>oV (cW V.u3 Tryz.underlying52 rfl (wF (by omega) (by omega))) h):Q→P:=h
theorem JE(h:Q→P:=by exact fun h=>oV (dP rfl rfl (by decide) (Xx (by omega))) h):Q→P:=h
theorem H2(h:Q→P:=by exact fun h=>oV (cW V.Zd Tryz.underlying3 rfl wI) h):Q→P:=h
theorem Qe(h:Q→P:=by exact fun h=>rO TT 3 rfl h):Q→P:=h
theorem OC(h:Q→P:=by exact fun h=>bb (M := Row I3 p n cap (l) :: S :: F) (fun _ _ h => h) h):Q→P:=h
theorem DP(h:Q→P:=by exact fun h=>jz TT 6 rfl (by omega) h):Q→P:=h
theorem Qp(h:Q→P:=by exact fun h=>rC TT 7 rfl h):Q→P:=h
theorem Qd(h:Q→P:=by exact fun h=>rC TT 6 rfl h):Q→P:=h
theorem Q7(h:Q→P:=by exact fun h=>rO TT 2 rfl h):Q→P:=h
theorem Qm(h:Q→P:=by exact fun h=>rL TT 6 rfl h):Q→P:=h
theorem Q1(h:Q→P:=by exact fun h=>rO TT 6 rfl h):Q→P:=h
theorem Qj(h:Q→P:=by exact fun h=>rO TT 8 rfl h):Q→P:=h
theorem oO(h:Q→P:=by exact fun h=>rC TT 9 rfl h):Q→P:=h
theorem QG(h:Q→P:=by exact fun h=>iP TT 8 rfl (by omega) h):Q→P:=h
theorem QI(h:Q→P:=by exact fun h=>rT TT 5 rfl h):Q→P:=h
theorem QJ(h:Q→P:=by exact fun h=>rT TT 8 rfl h):Q→P:=h
theorem Nq(h:Q→P:=by exact fun h=>nR (fun y FF hA => az V.ml rfl aA rfl) h):Q→P:=h
theorem Qr(h:Q→P:=by exact fun h=>rT TT 2 rfl h):Q→P:=h
theorem QK(h:Q→P:=by exact fun h=>rO TT 15 rfl h):Q→P:=h
theorem Bi(h:Q→P:=by exact fun h=>iP TT 10 rfl (by omega) h):Q→P:=h
theorem Q8(h:Q→P:=by exact fun h=>rO TT 4 rfl h):Q→P:=h
theorem QL(h:Q→P:=by exact fun h=>rO TT 12 rfl h):Q→P:=h
theorem Q0(h:Q→P:=by exact fun h=>cL rfl h):Q→P:=h
theorem Qc(h:Q→P:=by exact fun h=>rO TT 7 rfl h):Q→P:=h
theorem Qn(h:Q→P:=by exact fun h=>rO TT 9 rfl h):Q→P:=h
theorem tw(h:Q→P:=by exact fun h=>iL rfl (cs := [_]) rfl rfl h):Q→P:=h
theorem Jq(h:Q→P:=by exact fun h=>oV (az V.ml rfl aA rfl) h):Q→P:=h
theorem IF(h:Q→P:=by exact fun h=>oV (jY (ty' := 0) Tryz.underlying47 rfl) h):Q→P:=h
theorem Aj(h:Q→P:=by exact fun h=>oV (az V.ml rfl dL rfl) h):Q→P:=h
theorem Q3(h:Q→P:=by exact fun h=>rO TT 5 rfl h):Q→P:=h
theorem Q3R(h:Q→P:=by exact fun h=>nV (fun y hA L => dh (((I3.g ls (k : Int))).toNat) (by omega) V.qV rfl rfl (by omega)) h):Q→P:=h
theorem UU(h:Q→P:=by exact fun h=>ff (c := (I3)) V.cA V.z3 rfl rfl rfl rfl ay (own aA) (by omega) rfl h):Q→P:=h
theorem A9(h:Q→P:=by exact fun h=>iP TT 7 rfl (by omega) h):Q→P:=h
theorem Q4(h:Q→P:=by exact fun h=>rC TT 3 rfl h):Q→P:=h
theorem Qa(h:Q→P:=by exact fun h=>rC TT 2 rfl h):Q→P:=h
theorem vA(h:Q→P:=by exact fun h=>iP TT 2 rfl (by omega) h):Q→P:=h
theorem QW(h:Q→P:=by exact fun h=>rT TT 9 rfl h):Q→P:=h
theorem qg(h:Q→P:=by exact fun h=>BN (fun h hh => hh) h):Q→P:=h
theorem pY(h:Q→P:=by exact fun h=>nR (fun y FF hA => az V.jU rfl aA rfl) h):Q→P:=h
theorem yj(h:Q→P:=by exact fun h=>nV (fun y hA L => jY (ty' := 0) Tryz.underlying22 rfl) h):Q→P:=h
theorem OJ(h:Q→P:=by exact fun h=>nV (fun y hA L => fP rfl rfl wI) h):Q→P:=h
theorem Qv(h:Q→P:=by exact fun h=>nR (fun y FF hA => az V.s3 rfl aA rfl) h):Q→P:=h
theorem Jy(h:Q→P:=by exact fun h=>bD _ (.cons (d := 2) rfl (.nil _)) h):Q→P:=h
theorem VL(h:Q→P:=by exact fun h=>bb (M := ai b 236 [.slice p1 B.length c1, .slice p2 out.length c2, .int .i64 (at_ : Int), .int .i64 free] :: Row U5 p1 B.length c1 B :: Row U5 p2 out.length c2 out :: F) (fun _ _ h => h) h):Q→P:=h
theorem Ru(h:Q→P:=by exact fun h=>au [(0, _), (1, _)] Tryz.func92 rfl Tryz.ntmps92 rfl rfl h):Q→P:=h
theorem QM(h:Q→P:=by exact fun h=>oV (bR (dW rfl rfl) (by omega)) h):Q→P:=h
theorem Qq(h:Q→P:=by exact fun h=>oV (bR (ed rfl rfl) (by omega)) h):Q→P:=h
theorem M8(h:Q→P:=by exact fun h=>aj (MT b B at_ out free hl ha) V.NP  rfl (aq .nil) rfl h):Q→P:=h
theorem Qt(h:Q→P:=by exact fun h=>oV (cJ (ed rfl rfl) (by omega)) h):Q→P:=h
theorem Vd(h:Q→P:=by exact fun h=>nV (fun y hA L => ji rfl rfl (by omega) (rS (by omega) (by omega) (by omega))) h):Q→P:=h
theorem IK(h:Q→P:=by exact fun h=>nR (fun y FF hA => xI V.bK (own aA)) h):Q→P:=h
theorem SH(h:Q→P:=by exact fun h=>nV (fun y hA L => kX rfl rfl (by omega) (mX (by omega))) h):Q→P:=h
theorem Ql(h:Q→P:=by exact fun h=>oV (az V.s3 rfl aA rfl) h):Q→P:=h
theorem vK(h:Q→P:=by exact fun h=>iP TT 4 rfl (by omega) h):Q→P:=h
theorem pL(h:Q→P:=by exact fun h=>cu (dz V.s3 rfl rfl rfl (by exact fW) (by exact Nat.le_of_ble_eq_true rfl) rfl) h):Q→P:=h
theorem qa(h:Q→P:=by exact fun h=>oV (cW V.u5 Tryz.underlying3 rfl wI) h):Q→P:=h
theorem D1(h:Q→P:=by exact fun h=>oV (de (v := .bool false) (uS Tryz.underlying219 rfl rfl) rfl) h):Q→P:=h
theorem Qi(h:Q→P:=by exact fun h=>rO TT 10 rfl h):Q→P:=h
theorem UL(h:Q→P:=by exact fun h=>oV (c5 V.Ux V.z156 rfl (cs := [.slice q B.length c, .slice none 0 0, .int .i64 0, .int .i64 0]) rfl) h):Q→P:=h
theorem Vs(h:Q→P:=by exact fun h=>iL rfl (cs := [.slice q B.length c, .slice none 0 0, .int .i64 0, .int .i64 0]) rfl rfl h):Q→P:=h
theorem U1(h:Q→P:=by exact fun h=>oV (gS (r := 2 * af.acc B at_ m) rfl rfl (by decide) (af.PI hac0.1 (by omega))) h):Q→P:=h
theorem PB(h:Q→P:=by exact fun h=>oV (dh (m + 1) rfl V.qV rfl rfl (by omega)) h):Q→P:=h
theorem NV(h:Q→P:=by exact fun h=>oV (oS ((m : Int) + 1) V.s3 rfl dM (by (simp only [List.length_cons, List.length_nil]; omega)) (by omega) (by omega)) h):Q→P:=h
theorem xC(h:Q→P:=by exact fun h=>iP TT 5 rfl (by omega) h):Q→P:=h
theorem vZ(h:Q→P:=by exact fun h=>oV (az V.jU rfl aA rfl) h):Q→P:=h
theorem Sr(h:Q→P:=by exact fun h=>ff (c := (U5)) V.bK V.z5 rfl rfl rfl rfl bj (own aA) (by omega) rfl h):Q→P:=h
theorem Ws(h:Q→P:=by exact fun h=>cu (dz V.jU rfl rfl rfl (by exact zf) (by exact Nat.le_of_ble_eq_true rfl) rfl) h):Q→P:=h
theorem FG(h:Q→P:=by exact fun h=>aj (ny 4) V.kG  rfl .nil rfl h):Q→P:=h
theorem Ab(h:Q→P:=by exact fun h=>c9 (kT 4) V.kG rfl .nil h):Q→P:=h
theorem pT(h:Q→P:=by exact fun h=>oV (ji rfl rfl (by omega) (rS (by omega) (by omega) (by omega))) h):Q→P:=h
theorem nJ(h:Q→P:=by exact fun h=>oV (az V.s4 rfl aA rfl) h):Q→P:=h
theorem zv(h:Q→P:=by exact fun h=>cu (dz V.s4 rfl rfl rfl (by exact fW) (by exact Nat.le_of_ble_eq_true rfl) rfl) h):Q→P:=h
theorem pM(h:Q→P:=by exact fun h=>oV (az V.fV rfl aA rfl) h):Q→P:=h
theorem Vq(h:Q→P:=by exact fun h=>cu (dz V.y8 rfl rfl rfl (by exact IP) (by exact Nat.le_of_ble_eq_true rfl) rfl) h):Q→P:=h
theorem mP(h:Q→P:=by exact fun h=>nG V.gy h):Q→P:=h
theorem mA(h:Q→P:=by exact fun h=>nR (fun y FF hA => az V.fV rfl aA rfl) h):Q→P:=h
theorem Pz(h:Q→P:=by exact fun h=>aV (.bool true) _ _ (fun y => rfl) rfl (fun y => rfl) (fun y FF hA => (cI.fact (hA 4 (by decide)) (q := fun _ => False) rfl).elim) h):Q→P:=h
theorem Q32(h:Q→P:=by exact fun h=>nE (fun y FF hA => aX (Post := [LW bl B (a + 5) [] 0]) (eM bl B a [] 0 5 hl hB (by omega) (by omega)) V.eh rfl (aq .nil) (fun v G h => by rcases h with ⟨rfl, rfl⟩; exact ⟨rfl, .refl _⟩)) h):Q→P:=h
theorem Q1w(h:Q→P:=by exact fun h=>aV (.bool true) _ _ (fun y => rfl) rfl (fun y => rfl) (fun y FF hA => (cI.fact (hA 10 (by decide)) (q := fun _ => False) rfl).elim) h):Q→P:=h
theorem Q40(h:Q→P:=by exact fun h=>nE (fun y FF hA => aX (Post := [LW bl B (a + 10) [] 0]) (eM bl B (a + 5) [] 0 5 hl hB (by omega) (by omega)) V.eh rfl (aq .nil) (fun v G h => by rcases h with ⟨rfl, rfl⟩; exact ⟨rfl, .refl _⟩)) h):Q→P:=h
theorem Q2f(h:Q→P:=by exact fun h=>aV (.bool true) _ _ (fun y => rfl) rfl (fun y => rfl) (fun y FF hA => (cI.fact (hA 16 (by decide)) (q := fun _ => False) rfl).elim) h):Q→P:=h
theorem yR(h:Q→P:=by exact fun h=>oV (cJ (eO rfl rfl) (by omega)) h):Q→P:=h
theorem Ip(h:Q→P:=by exact fun h=>oV (az V.fV rfl dL rfl) h):Q→P:=h
theorem YD(h:Q→P:=by exact fun h=>cu (nf (c := (I3)) (_) V.s3 rfl rfl rfl (by exact tg) (by omega) (by omega) rfl rfl) h):Q→P:=h
theorem Q42(h:Q→P:=by exact fun h=>aj ((mC bc (ad.bT B a) bl B x [] 0 hy hl hB hx).ok hs) V.pq  rfl (.cons ay (.cons bj .nil)) rfl h):Q→P:=h
theorem Ie(h:Q→P:=by exact fun h=>oV (bR (eO rfl rfl) (by omega)) h):Q→P:=h
theorem Q33(h:Q→P:=by exact fun h=>wm (p := pr) (n := l.length) (cap := cr) (l := l) (c := I3) aA fun hcap => h):Q→P:=h
theorem Q34(h:Q→P:=by exact fun h=>nV (fun y hA L => iK (ad.hL B a) _ V.cA rfl ⟨_, rfl⟩ rfl (by omega) (by omega)) h):Q→P:=h
theorem Q43(h:Q→P:=by exact fun h=>eK (fun y v => .pointer (some ⟨ek v, 0, none⟩)) (fun y v => True) _ _ (fun y v => [HC (ek v) (l.take (ad.hL B a)), Row I3 pr l.length cr l]) _ (fun y => rfl) (fun y => rfl) (fun y => rfl) (fun y => rfl) (fun y FF hA => n6 (A := fun z => HC z (l.take (ad.hL B a))) (Post := [Row I3 pr l.length cr l]) (kK pr (ad.hL B a) cr (l.take (ad.hL B a)) (Row I3 pr l.length cr l) (by (rw [List.length_take]; omega)) (fun _ _ hh => oo rfl (by omega) hh) hc1) V.mY rfl (aq .nil)) (by intros; rfl) (by intros; rfl) (by intros; rfl) (by intro y y2 h; simp only [h 5 (.inl rfl)]) (by intro y y2 h; rfl) h):Q→P:=h
theorem Q35(h:Q→P:=by exact fun h=>nV (fun y hA L => dY (ad.hL B a) _ _ V.cA rfl ⟨_, rfl⟩ ⟨rfl, rfl⟩ rfl (by omega) (by omega) (by omega)) h):Q→P:=h
theorem Q44(h:Q→P:=by exact fun h=>nE (fun y FF hA => dE (dz V.y8 rfl rfl rfl (by exact fW) (by exact Nat.le_of_ble_eq_true rfl) rfl) ⟨rfl, .refl _⟩) h):Q→P:=h
theorem UX(h:Q→P:=by exact fun h=>aV (.bool true) _ _ (fun y => rfl) rfl (fun y => rfl) (fun y FF hA => (cI.fact (hA 9 (by decide)) (q := fun _ => False) rfl).elim) h):Q→P:=h
theorem Q1i(h:Q→P:=by exact fun h=>aV (.bool true) _ _ (fun y => rfl) rfl (fun y => rfl) (fun y FF hA => (cI.fact (hA 5 (by decide)) (q := fun _ => False) rfl).elim) h):Q→P:=h
theorem H0(h:Q→P:=by exact fun h=>oV (cJ (dW rfl rfl) hq) h):Q→P:=h
theorem Qs(h:Q→P:=by exact fun h=>rO TT 11 rfl h):Q→P:=h
theorem Q45(h:Q→P:=by exact fun h=>nV (fun y hA L => gS (r := (4 + sy % 4) * 2 ^ ad.fD sy) rfl rfl (by omega) hsh.1) h):Q→P:=h
theorem Ve(h:Q→P:=by exact fun h=>aV (.bool true) _ _ (fun y => rfl) rfl (fun y => rfl) (fun y FF hA => (cI.fact (hA 11 (by decide)) (q := fun _ => False) rfl).elim) h):Q→P:=h
theorem Jw(h:Q→P:=by exact fun h=>nR (fun y FF hA => az V.y8 rfl aA rfl) h):Q→P:=h
theorem VT(h:Q→P:=by exact fun h=>aV (.bool true) _ _ (fun y => rfl) rfl (fun y => rfl) (fun y FF hA => (cI.fact (hA 8 (by decide)) (q := fun _ => False) rfl).elim) h):Q→P:=h
theorem Vk(h:Q→P:=by exact fun h=>nV (fun y hA L => gS (r := (2 + sy % 2) * 2 ^ ad.fX sy) rfl rfl (by omega) hsh.1) h):Q→P:=h
theorem vH(h:Q→P:=by exact fun h=>cu (dz V.s4 rfl rfl rfl (by exact tg) (by exact Nat.le_of_ble_eq_true rfl) rfl) h):Q→P:=h
theorem QU(h:Q→P:=by exact fun h=>oV (az V.s3 rfl dM rfl) h):Q→P:=h
theorem VM(h:Q→P:=by exact fun h=>nE (fun y FF hA => aX (Post := [LW bl B ((ad.cR (s.at_ + 3)) + 16) [] 0]) (eM bl B (ad.cR (s.at_ + 3)) [] 0 16 hl hB (by omega) (by omega)) V.eh rfl (aq .nil) (fun v G h => by rcases h with ⟨rfl, rfl⟩; exact ⟨rfl, .refl _⟩)) h):Q→P:=h
theorem Vg(h:Q→P:=by exact fun h=>oV (qC (r := (IntKind.i64.wrap ((BitVec.ofInt IntKind.i64.bits (af.aK B (ad.cR (s.at_ + 3)) 16) ^^^ BitVec.ofInt IntKind.i64.bits (af.aK B ((ad.cR (s.at_ + 3)) + 16) 16)).toNat : Int))) rfl rfl rfl) h):Q→P:=h
theorem pU(h:Q→P:=by exact fun h=>oV (cW V.u3 Tryz.underlying5 rfl (qP (by omega) (by omega))) h):Q→P:=h
theorem WL(h:Q→P:=by exact fun h=>oV (jX (r := sy - 257) rfl rfl (by rw [show sy - 256 - 1 = sy - 257 from by omega]; exact eX (by omega) (by omega))) h):Q→P:=h
theorem UJ(h:Q→P:=by exact fun h=>bb (aM (aT .nil) .refl (fun w0 h hh => cT (s := s) rfl hh)) h):Q→P:=h
theorem U4(h:Q→P:=by exact fun h=>bb (aM (.cons bj (.cons bj .nil)) .refl (fun w0 h hh => cT (s := s) rfl hh)) h):Q→P:=h
theorem Wt(h:Q→P:=by exact fun h=>aj (eM bl B s.at_ [] 0 8 hl hB (by omega) (by omega)) V.eh  rfl (.cons bj .nil) rfl h):Q→P:=h
theorem U9(h:Q→P:=by exact fun h=>cu (dz V.C9 rfl rfl rfl (.tail .head) (by exact Nat.le_of_ble_eq_true rfl) rfl) h):Q→P:=h
theorem VQ(h:Q→P:=by exact fun h=>cu (dz V.C9 rfl rfl rfl .head (by exact Nat.le_of_ble_eq_true rfl) rfl) h):Q→P:=h
theorem WD(h:Q→P:=by exact fun h=>ze (L' := Pre ++ (ai b2 27 [.int .i64 0] :: F)) List.perm_middle.symm h):Q→P:=h
theorem vD(h:Q→P:=by exact fun h=>lj dg (fun h hh => uw hh) h):Q→P:=h
theorem sS(h:Q→P:=by exact fun h=>BN (fun h hh => qX hh) h):Q→P:=h
theorem V5(h:Q→P:=by exact fun h=>bD _ (.cons (d := 0) rfl (.cons (d := 1) rfl (.cons (d := 2) rfl (.cons (d := 18) rfl (.nil _))))) h):Q→P:=h
theorem VN(h:Q→P:=by exact fun h=>bb (M := ai b 223 [.pointer (some ⟨bl, 0, none⟩), .int .i64 sz, .int .i64 mo, .slice po s.out.length co, .bool s.ended, .int .i64 0, .int .i64 s.kind, .int .i64 (s.left : Int), .bool s.last, li, di, .int .i64 (s.ax : Int), .int .i64 (s.bA : Int)] :: Row U5 po s.out.length co s.out :: LW bl B s.at_ [] 0 :: CD li di s :: ai bm 204 [.pointer (some ⟨b, 0, none⟩)] :: ai bw 3 [.int .i64 (w : Int)] :: ai bn 3 [.int .i64 n] :: F) (fun _ _ h => h) h):Q→P:=h
theorem WR(h:Q→P:=by exact fun h=>kM _ _ (fun y => rfl) rfl (fun y => rfl) rfl (fun y FF hA => gL rfl (dE (az V.s3 rfl aA rfl) ⟨rfl, rfl⟩)) (by intros; rfl) (by intro y y2 h; rfl) h):Q→P:=h
theorem Vc(h:Q→P:=by exact fun h=>bb ((aM (aT .nil) .refl (fun w0 h hh => cT (s := s) rfl hh)).trans (aM (fQ .nil) .refl (fun w0 h hh => fm (s := s) hh))) h):Q→P:=h
theorem QH(h:Q→P:=by exact fun h=>oV (az V.r9 rfl dM rfl) h):Q→P:=h
theorem Ja(h:Q→P:=by exact fun h=>au [(0, _), (1, _)] Tryz.func147 rfl Tryz.ntmps147 rfl rfl h):Q→P:=h
theorem zH(h:Q→P:=by exact fun h=>oV (de (v := .bool false) (uS Tryz.underlying204 rfl rfl) rfl) h):Q→P:=h
theorem CZ(h:Q→P:=by exact fun h=>oV (az V.s4 rfl dL rfl) h):Q→P:=h
theorem oN(h:Q→P:=by exact fun h=>oV (jY (ty' := 0) Tryz.underlying22 rfl) h):Q→P:=h
theorem Wf(h:Q→P:=by exact fun h=>bb (Sl.Sub.trans (aM (.cons dw (.cons dw .nil)) .refl (fun w0 h hh => cT (s := s) rfl hh)) (aM (aq (.cons dw (.cons dw .nil))) .refl (fun w0 h hh => fm (s := s) hh))) h):Q→P:=h
theorem Io(h:Q→P:=by exact fun h=>lj dg (fun h hh => Bu hh) h):Q→P:=h
theorem Jm(h:Q→P:=by exact fun h=>oV (az V.C9 rfl aA rfl) h):Q→P:=h
theorem OV(h:Q→P:=by exact fun h=>au [(0, _)] Tryz.func148 rfl Tryz.ntmps148 rfl rfl h):Q→P:=h
theorem SL(h:Q→P:=by exact fun h=>aj (xz b bl sz mo B s) V.uU  rfl (aq .nil) rfl h):Q→P:=h
theorem vg(h:Q→P:=by exact fun h=>jk (Row U5 none 0 0 []) (Row.nil _ _ _) h):Q→P:=h
theorem vo(h:Q→P:=by exact fun h=>oV (az V.jU rfl dM rfl) h):Q→P:=h
theorem R5(h:Q→P:=by exact fun h=>au [(0, _)] Tryz.func149 rfl Tryz.ntmps149 rfl rfl h):Q→P:=h
theorem Zx(h:Q→P:=by exact fun h=>oV (c5 V.UC V.Xk rfl (cs := [_, _, _, _, _, _, _, _, _, _, _, _, _]) rfl) h):Q→P:=h
theorem QO(h:Q→P:=by exact fun h=>oV (cJ (dW rfl rfl) (by omega)) h):Q→P:=h
theorem Qu(h:Q→P:=by exact fun h=>rO TT 13 rfl h):Q→P:=h
theorem JG(h:Q→P:=by exact fun h=>oV (xI V.bK (by exact bG hR aA)) h):Q→P:=h
theorem JQ(h:Q→P:=by exact fun h=>oV (xL V.s5 (by exact bG hR aA)) h):Q→P:=h
theorem PM(h:Q→P:=by exact fun h=>oV (cW V.u5 Tryz.underlying76 rfl (aH.wrap32 (by omega) (by omega))) h):Q→P:=h
theorem IA(h:Q→P:=by exact fun h=>oV (eb rfl rfl (aH.wrap32 (by omega) (by omega))) h):Q→P:=h
theorem UQ(h:Q→P:=by exact fun h=>oV (kX (r := ((aH.e9 (B.take i)).1 + (U5.g B (i : Int))) % 65521) rfl rfl (by omega) (mX (by omega))) h):Q→P:=h
theorem Vh(h:Q→P:=by exact fun h=>oV (kX (r := ((aH.e9 (B.take i)).2 + ((aH.e9 (B.take i)).1 + (U5.g B (i : Int))) % 65521) % 65521) rfl rfl (by omega) (mX (by omega))) h):Q→P:=h
theorem VR(h:Q→P:=by exact fun h=>oV (gS (r := (aH.e9 B).2 * 65536) rfl rfl (by decide) (aH.Xq (n := 16) rfl (by decide) rfl (by omega) (by omega))) h):Q→P:=h
theorem UK(h:Q→P:=by exact fun h=>oV (ow (r := (aH.e9 B).2 * 65536 + (aH.e9 B).1) rfl rfl (aH.X9 (u := (aH.e9 B).2) (n := 16) rfl (by omega) (by omega) (by omega))) h):Q→P:=h
theorem rJ(h:Q→P:=by exact fun h=>WX V.mixed (by kernel_rfl) h):Q→P:=h
theorem vu(h:Q→P:=by exact fun h=>oR (jm rfl) h):Q→P:=h
theorem D6(h:Q→P:=by exact fun h=>oV (jG (r := (U5.g B 0) % 16) rfl rfl (aH.UE hv)) h):Q→P:=h
theorem QC(h:Q→P:=by exact fun h=>oV (bR (da rfl rfl) (by omega)) h):Q→P:=h
theorem QD(h:Q→P:=by exact fun h=>oV (cJ (da rfl rfl) (by omega)) h):Q→P:=h
theorem IJ(h:Q→P:=by exact fun h=>oV (dP (r := (U5.g B 0) / 16) rfl rfl (by decide) (aH.Zq hv.1)) h):Q→P:=h
theorem RE(h:Q→P:=by exact fun h=>oV (gS (r := (U5.g B 0) * 256) rfl rfl (by decide) (aH.Hb (n := 8) rfl (by decide) rfl (by omega) (by omega))) h):Q→P:=h
theorem Nf(h:Q→P:=by exact fun h=>oV (ow (r := (U5.g B 0) * 256 + (U5.g B 1)) rfl rfl (aH.ur (u := (U5.g B 0)) (n := 8) rfl hv.1 (by omega) (by omega))) h):Q→P:=h
theorem SN(h:Q→P:=by exact fun h=>oV (kX (r := ((U5.g B 0) * 256 + (U5.g B 1)) % 31) rfl rfl (by omega) (mX (by omega))) h):Q→P:=h
theorem QP(h:Q→P:=by exact fun h=>rO TT 14 rfl h):Q→P:=h
theorem I6(h:Q→P:=by exact fun h=>oV (bR (cE rfl rfl) (fun h => h he)) h):Q→P:=h
theorem V4(h:Q→P:=by exact fun h=>wN [pz 0 [] [9], pz 1 [0] [], pz 0 [] [6], pz 4 [2] [], pz 15 [1, 3] [], pz 31 [4] []] [⟨fun y => Row U5 q22 x.length c22 x, none, some 3, []⟩, ⟨fun y => R, none, none, [1]⟩, ⟨fun y => Row U5 q22 x.length c22 x, some 3, none, []⟩] F V.mixed h):Q→P:=h
theorem V3(h:Q→P:=by exact fun h=>nR (fun y FF hA => tP (T := 5) Tryz.underlying22 Tryz.underlying5 Tryz.underlying9 rfl (by exact bG hDn aA)) h):Q→P:=h
theorem UO(h:Q→P:=by exact fun h=>nE (fun y FF hA => aX (Post := [Row U5 q22 x.length c22 x]) (Tb q22 c22 x (Row U5 q22 x.length c22 x) (fun _ _ hh => hh.rd) (by omega) hxB) V.Oj rfl (aq .nil) (fun v G h => by rcases h with ⟨rfl, rfl⟩; exact ⟨rfl, .refl _⟩)) h):Q→P:=h
theorem Wu(h:Q→P:=by exact fun h=>oV (dP (r := (aa.fO k x) / 2) rfl rfl (by decide) (aa.lH (n := 1) rfl (by decide) rfl)) h):Q→P:=h
theorem vL(h:Q→P:=by exact fun h=>oV (cW V.Bq Tryz.underlying5 rfl (aa.fY _)) h):Q→P:=h
theorem Wv(h:Q→P:=by exact fun h=>oV (xo (r := 4294967295 - (aa.fq (4294967295 - s) B)) rfl rfl (aa.Cr (by omega))) h):Q→P:=h
theorem Wq(h:Q→P:=by exact fun h=>G0 Tryz.underlying9 Tryz.underlying22 Tryz.underlying5 rfl (aa.bo hk) rfl h):Q→P:=h
theorem QN(h:Q→P:=by exact fun h=>oV (cJ (Cz rfl rfl) (by omega)) h):Q→P:=h
theorem oI(h:Q→P:=by exact fun h=>oV (bR (Cz rfl rfl) (by omega)) h):Q→P:=h
theorem JU(h:Q→P:=by exact fun h=>oV (Oi Tryz.underlying9 rfl (kc kk)) h):Q→P:=h
theorem OQ(h:Q→P:=by exact fun h=>oV (AX i Tryz.underlying9 rfl rfl (aa.bo hk) rfl (by omega)) h):Q→P:=h
theorem Af(h:Q→P:=by exact fun h=>iP TT 11 rfl (by omega) h):Q→P:=h
theorem yr(h:Q→P:=by exact fun h=>c4 V.Fo rfl h):Q→P:=h
theorem Em(h:Q→P:=by exact fun h=>oV (c5 V.Nt V.Fo rfl (cs := [.string ByteArray.empty, .slice none 0 0]) rfl) h):Q→P:=h
theorem rB(h:Q→P:=by exact fun h=>cu (bd V.oF rfl rfl (us := [_, _]) rfl rfl (by exact fW) (by exact Nat.le_of_ble_eq_true rfl) rfl) h):Q→P:=h
theorem EM(h:Q→P:=by exact fun h=>wN [pz 0 [] [0], pz 1 [0] [], pz 0 [] [0], pz 4 [2] [], pz 12 [3] [], pz 3 [1] [], pz 63 [4] []] [⟨fun y => ai b4 88 [.string ByteArray.empty, .slice none 0 0], none, none, []⟩, ⟨fun y => ai bt 175 (CA [] .u32 aa.eH []), none, none, []⟩, ⟨fun y => R, none, none, [1, 4]⟩] F V.mixed h):Q→P:=h
theorem CP(h:Q→P:=by exact fun h=>nE (fun y FF hA => aX (Post := [R]) (w5 p c B R hR hB (by omega) hcap) V.Sg rfl (aq .nil) (fun v G h => by rcases h with ⟨rfl, rfl⟩; exact ⟨rfl, .refl _⟩)) h):Q→P:=h
theorem Fx(h:Q→P:=by exact fun h=>nV (fun y hA L => dY 4 8 _ V.bK rfl ⟨_, rfl⟩ ⟨_, rfl⟩ rfl (by omega) (by omega) (by omega)) h):Q→P:=h
theorem FK(h:Q→P:=by exact fun h=>nR (fun y FF hA => tP (T := 5) Tryz.underlying22 Tryz.underlying5 Tryz.underlying9 rfl (by exact bG hS aA)) h):Q→P:=h
theorem Dh(h:Q→P:=by exact fun h=>bD _ (.cons (d := 0) rfl (.cons (d := 1) rfl (.cons (d := 4) rfl (.cons (d := 7) rfl (.cons (d := 8) rfl (.nil _)))))) h):Q→P:=h
theorem C7(h:Q→P:=by exact fun h=>bb (M := ai b4 88 [.string ByteArray.empty, .slice none 0 0] :: ai bt 175 (CA [] .u32 aa.eH []) :: R :: F) (fun _ _ h => h) h):Q→P:=h
theorem Rr(h:Q→P:=by exact fun h=>aj (lT ((B.drop 4).take 4) (aa.fU (aa.dT hB 4) 4) (by rw [aa.j9 (by omega)]; decide) true (decide_eq_true hnm).symm) V.uC  rfl .nil rfl h):Q→P:=h
theorem Ah(h:Q→P:=by exact fun h=>iP TT 12 rfl (by omega) h):Q→P:=h
theorem JF(h:Q→P:=by exact fun h=>oV (de (v := .int .i64 ((8 + n : Nat) : Int)) (eb rfl rfl wI) (by congr 1)) h):Q→P:=h
theorem Vv(h:Q→P:=by exact fun h=>oV (dY 8 (8 + n) c V.bK rfl ⟨_, rfl⟩ ⟨_, rfl⟩ rfl (by omega) (by omega) (by omega)) h):Q→P:=h
theorem Wh(h:Q→P:=by exact fun h=>oV (dY (8 + n) B.length c V.bK rfl ⟨_, rfl⟩ ⟨rfl, rfl⟩ rfl (by omega) (by omega) (by omega)) h):Q→P:=h
theorem U8(h:Q→P:=by exact fun h=>aj (Ds (dm p (8 + n) c 1) (c - (8 + n)) (B.length - (8 + n)) (B.drop (8 + n)) R hXn List.length_drop hb8 (by omega) (by omega)) V.Sg  rfl (.cons bj .nil) rfl h):Q→P:=h
theorem Wa(h:Q→P:=by exact fun h=>aj (FR bt ((B.drop 4).take 4) hk4 (by rw [aa.j9 (by omega)]; decide) (dm p 8 c 1) (c - 8) (8 + n - 8) ((B.drop 8).take n) R hX8 (by rw [aa.j9 (by omega)]; omega) (by omega) AL) V.W8  rfl (.cons bj (aq .nil)) rfl h):Q→P:=h
theorem Pe(h:Q→P:=by exact fun h=>aj (Hx yi pz cz Z.length Z R hZR rfl (by omega) hZB hZc x hf) V.WA  rfl (.cons bj (.cons bj .nil)) rfl h):Q→P:=h
theorem MG(h:Q→P:=by exact fun h=>oV (bR (cE rfl rfl) (fun h => h rfl)) h):Q→P:=h
theorem PW(h:Q→P:=by exact fun h=>oV (dY (12 + x.d.length) Z.length cz V.bK rfl ⟨_, rfl⟩ ⟨rfl, rfl⟩ rfl (by omega) (by omega) (by omega)) h):Q→P:=h
theorem Ew(h:Q→P:=by exact fun h=>oV (dH V.oF rfl aA (vs := [_, _]) rfl rfl) h):Q→P:=h
theorem Pn(h:Q→P:=by exact fun h=>cM (CK) [(Ce.mk x.k q35 c35 x.d)] V.rQ V.Fo rfl rfl rfl rfl rfl rfl h):Q→P:=h
theorem Oq(h:Q→P:=by exact fun h=>ff (c := (CK)) V.rQ V.Fo rfl rfl rfl rfl jJ (own aA) (by omega) rfl h):Q→P:=h
theorem ND(h:Q→P:=by exact fun h=>bb (aM (A := DK (es ++ [(Ce.mk x.k q35 c35 x.d)])) (.cons mF (.cons dw .nil)) ao (fun w0 h hh => Mj (x := (Ce.mk x.k q35 c35 x.d)) rfl hh)) h):Q→P:=h
theorem VI(h:Q→P:=by exact fun h=>oV (de (v := .bool false) (mz (r := true) (by rw [hk]; exact beq_self_eq_true _) rfl (show an _ _ = some (.string (strOfNums aa.aY)) by unfold aa.aY; rfl)) rfl) h):Q→P:=h
theorem nO(h:Q→P:=by exact fun h=>oV (az V.s9 rfl aA rfl) h):Q→P:=h
theorem rI(h:Q→P:=by exact fun h=>oV (az V.s4 rfl dM rfl) h):Q→P:=h
theorem Am(h:Q→P:=by exact fun h=>oV (je (aa.bo hxk) (aa.bo aa.qR) rfl (show an _ _ = some (.string (strOfNums aa.ba)) by unfold aa.ba; rfl) (decide_eq_false h1).symm) h):Q→P:=h
theorem UP(h:Q→P:=by exact fun h=>oV (je (aa.bo hxk) (aa.bo aa.qw) rfl (show an _ _ = some (.string (strOfNums aa.aN)) by unfold aa.aN; rfl) (decide_eq_true h2).symm) h):Q→P:=h
theorem Ir(h:Q→P:=by exact fun h=>oV (je (aa.bo hxk) (aa.bo aa.qw) rfl (show an _ _ = some (.string (strOfNums aa.aN)) by unfold aa.aN; rfl) (decide_eq_false h2).symm) h):Q→P:=h
theorem P0(h:Q→P:=by exact fun h=>oV (je (aa.bo hxk) (aa.bo aa.qB) rfl (show an _ _ = some (.string (strOfNums aa.aS)) by unfold aa.aS; rfl) (decide_eq_false h3).symm) h):Q→P:=h
theorem VH(h:Q→P:=by exact fun h=>aj (lT x.k hxk (by omega) true (decide_eq_true h4).symm) V.uC  rfl .nil rfl h):Q→P:=h
theorem Er(h:Q→P:=by exact fun h=>oV (de (v := .int .i64 (((es.length - 1) : Nat) : Int)) (jX rfl rfl wI) (by congr 1; omega)) h):Q→P:=h
theorem l9(h:Q→P:=by exact fun h=>oV (xI V.rQ (by exact bG hR aA)) h):Q→P:=h
theorem vB(h:Q→P:=by exact fun h=>oV (bp V.T2 rfl) h):Q→P:=h
theorem vY(h:Q→P:=by exact fun h=>oV (fN (c := (CK)) 0 V.s9 rfl (by exact bG hR aA) (by omega) (by omega) rfl rfl) h):Q→P:=h
theorem Iu(h:Q→P:=by exact fun h=>oV (de (v := .bool false) (mz (r := true) (by rw [hk0]; exact beq_self_eq_true _) rfl (show an _ _ = some (.string (strOfNums aa.bQ)) by unfold aa.bQ; rfl)) rfl) h):Q→P:=h
theorem pe(h:Q→P:=by exact fun h=>oV (bp V.T0 rfl) h):Q→P:=h
theorem Aq(h:Q→P:=by exact fun h=>oV (fN (c := (CK)) 1 V.jU rfl (by exact bG hR aA) (by omega) (by omega) rfl rfl) h):Q→P:=h
theorem IB(h:Q→P:=by exact fun h=>oV (bR (cE rfl rfl) (fun hh => hh (by omega))) h):Q→P:=h
theorem V9(h:Q→P:=by exact fun h=>oV (de (v := .bool false) (mz (r := true) (by rw [hkn]; exact beq_self_eq_true _) rfl (show an _ _ = some (.string (strOfNums aa.aY)) by unfold aa.aY; rfl)) rfl) h):Q→P:=h
theorem UN(h:Q→P:=by exact fun h=>aj (OL b45 w.plte w.trns w.bW w.ka (CK.g ((es.drop 1).take ((es.length - 1) - 1)) (i : Int)) hxo.1 hxo.2) V.YE  rfl (.cons ay .nil) rfl h):Q→P:=h
theorem Q2w(h:Q→P:=by exact fun h=>oV (ji (r := 16384 / h) rfl rfl (by omega) (aa.pQ (by omega))) h):Q→P:=h
theorem tA(h:Q→P:=by exact fun h=>c4 V.vV rfl h):Q→P:=h
theorem Q1Y(h:Q→P:=by exact fun h=>aj (mg w h) V.vr  rfl .nil rfl h):Q→P:=h
theorem Al(h:Q→P:=by exact fun h=>oV (bR (cE rfl rfl) (by omega)) h):Q→P:=h
theorem Q4F(h:Q→P:=by exact fun h=>oV (de (v := .int .i64 ((4 * w * h).toNat : Int)) (fP rfl rfl wI) (by congr 1; omega)) h):Q→P:=h
theorem Q4G(h:Q→P:=by exact fun h=>kO ((4 * w * h).toNat) ((4 * w * h).toNat) (aD 62 .u16) rfl rfl V.ga V.EZ rfl rfl rfl rfl (by omega) (by omega) rfl rfl h):Q→P:=h
theorem Q4H(h:Q→P:=by exact fun h=>oV (c5 V.uh V.vV rfl (cs := [.int .i64 w, .int .i64 h, .slice (some ⟨b20, 0, none⟩) ((4 * w * h).toNat) ((4 * w * h).toNat)]) rfl) h):Q→P:=h
theorem Zc(h:Q→P:=by exact fun h=>cu (bd V.gn rfl rfl (us := [_, _, _]) rfl rfl (by exact tg) (by exact Nat.le_of_ble_eq_true rfl) rfl) h):Q→P:=h
theorem PA(h:Q→P:=by exact fun h=>oV (cJ (cE rfl rfl) (by omega)) h):Q→P:=h
theorem Yw(h:Q→P:=by exact fun h=>oV (c5 V.uh V.vV rfl (cs := [.int .i64 0, .int .i64 0, .slice none 0 0]) rfl) h):Q→P:=h
theorem Ai(h:Q→P:=by exact fun h=>cu (bd V.gn rfl rfl (us := [_, _, _]) rfl rfl (by exact fW) (by exact Nat.le_of_ble_eq_true rfl) rfl) h):Q→P:=h
theorem Q3n(h:Q→P:=by exact fun h=>aj (sL w h) V.H4  rfl .nil rfl h):Q→P:=h
theorem rF(h:Q→P:=by exact fun h=>iL rfl (cs := [_, _, _]) rfl rfl h):Q→P:=h
theorem Ij(h:Q→P:=by exact fun h=>oV (bp V.tq rfl) h):Q→P:=h
theorem Sw(h:Q→P:=by exact fun h=>cu (bd V.a145 rfl rfl (us := [_, _, _, _, _, _]) rfl rfl (by exact fW) (by exact Nat.le_of_ble_eq_true rfl) rfl) h):Q→P:=h
theorem R8(h:Q→P:=by exact fun h=>oV (dH V.a145 rfl aA (vs := [_, _, _, _, _, _]) rfl rfl) h):Q→P:=h
theorem MC(h:Q→P:=by exact fun h=>aj (iu x) V.kn  rfl .nil rfl h):Q→P:=h
theorem zZ(h:Q→P:=by exact fun h=>oR (az V.jU rfl aA rfl) h):Q→P:=h
theorem Dk(h:Q→P:=by exact fun h=>oV (gS (r := P) rfl rfl (by omega) ((aa.AI hd).trans hP.symm)) h):Q→P:=h
theorem VA(h:Q→P:=by exact fun h=>oV (ji (r := 65535 / (P - 1)) rfl rfl (by omega) (rS (by omega) (by omega) (by omega))) h):Q→P:=h
theorem yt(h:Q→P:=by exact fun h=>oV (cJ (da rfl rfl) (by decide)) h):Q→P:=h
theorem oT(h:Q→P:=by exact fun h=>oV (bR (da rfl rfl) (by decide)) h):Q→P:=h
theorem xy(h:Q→P:=by exact fun h=>oV (dH V.gn rfl aA (vs := [_, _, _]) rfl rfl) h):Q→P:=h
theorem qm(h:Q→P:=by exact fun h=>oV (dH V.gn rfl dM (vs := [_, _, _]) rfl rfl) h):Q→P:=h
theorem Iz(h:Q→P:=by exact fun h=>nR (fun y FF hA => az V.rz rfl aA rfl) h):Q→P:=h
theorem ry(h:Q→P:=by exact fun h=>c4 V.tt rfl h):Q→P:=h
theorem sU(h:Q→P:=by exact fun h=>oV (az V.s3 rfl dL rfl) h):Q→P:=h
theorem EK(h:Q→P:=by exact fun h=>cu (bd V.kA rfl rfl (us := [_, _, _, _]) rfl rfl (by exact fW) (by exact Nat.le_of_ble_eq_true rfl) rfl) h):Q→P:=h
theorem Jd(h:Q→P:=by exact fun h=>aj (sI w1 h1 q1 n1 c1 true (decide_eq_true a).symm) V.oQ  rfl .nil rfl h):Q→P:=h
theorem Nj(h:Q→P:=by exact fun h=>aj (sI w2 h2 q2 n2 c2 true (decide_eq_true a2).symm) V.oQ  rfl .nil rfl h):Q→P:=h
theorem FN(h:Q→P:=by exact fun h=>oV (bp V.IX rfl) h):Q→P:=h
theorem Ik(h:Q→P:=by exact fun h=>oR (bp V.sG rfl) h):Q→P:=h
theorem yK(h:Q→P:=by exact fun h=>nR (fun y FF hA => az V.Pg rfl aA rfl) h):Q→P:=h
theorem yG(h:Q→P:=by exact fun h=>oV (c5 V.P4 V.ve rfl (cs := [_, _, _, _, _]) rfl) h):Q→P:=h
theorem vi(h:Q→P:=by exact fun h=>cu (bd V.nQ rfl rfl (us := [_, _, _, _, _]) rfl rfl (by exact fW) (by exact Nat.le_of_ble_eq_true rfl) rfl) h):Q→P:=h
theorem QA(h:Q→P:=by exact fun h=>oV (az V.s3 rfl ig rfl) h):Q→P:=h
theorem yl(h:Q→P:=by exact fun h=>oV (bp V.wz rfl) h):Q→P:=h
theorem yz(h:Q→P:=by exact fun h=>cu (bd V.nQ rfl rfl (us := [_, _, _, _, _]) rfl rfl (by exact zf) (by exact Nat.le_of_ble_eq_true rfl) rfl) h):Q→P:=h
theorem AK(h:Q→P:=by exact fun h=>aj (CQ (B.getD 9 0) (B.getD 8 0) true (decide_eq_true a1).symm) V.U7  rfl .nil rfl h):Q→P:=h
theorem CW(h:Q→P:=by exact fun h=>oV (bR (ed rfl rfl) a2) h):Q→P:=h
theorem IZ(h:Q→P:=by exact fun h=>oV (bR (ed rfl rfl) a3) h):Q→P:=h
theorem H3(h:Q→P:=by exact fun h=>oV (bR (da rfl rfl) a4) h):Q→P:=h
theorem Vr(h:Q→P:=by exact fun h=>oV (fN (c := (aQ)) 0 V.s9 rfl (by exact bG hR aA) (by omega) (by omega) rfl rfl) h):Q→P:=h
theorem U6(h:Q→P:=by exact fun h=>cu (dz V.jU rfl rfl rfl (by exact tg) (by exact Nat.le_of_ble_eq_true rfl) rfl) h):Q→P:=h
theorem NX(h:Q→P:=by exact fun h=>oV (je (aa.bo hxk) (aa.bo aa.qw) rfl (show an _ _ = some (.string (strOfNums aa.aN)) by unfold aa.aN; rfl) (decide_eq_false a0).symm) h):Q→P:=h
theorem Wo(h:Q→P:=by exact fun h=>oV (je (aa.bo hxk) (aa.bo aa.qB) rfl (show an _ _ = some (.string (strOfNums aa.aS)) by unfold aa.aS; rfl) (decide_eq_false a1).symm) h):Q→P:=h
theorem JT(h:Q→P:=by exact fun h=>cu (bd V.Ss rfl rfl (us := [_, _, _, _, _, _, _, _, _]) rfl rfl (by exact fW) (by exact Nat.le_of_ble_eq_true rfl) rfl) h):Q→P:=h
theorem PF(h:Q→P:=by exact fun h=>oV (cJ (da rfl rfl) a1) h):Q→P:=h
theorem o6(h:Q→P:=by exact fun h=>oV (bR (da rfl rfl) a1) h):Q→P:=h
theorem JO(h:Q→P:=by exact fun h=>oV (cJ (da rfl rfl) a2) h):Q→P:=h
theorem yw(h:Q→P:=by exact fun h=>oV (bR (da rfl rfl) a2) h):Q→P:=h
theorem AY(h:Q→P:=by exact fun h=>oV (kX rfl rfl (by omega) (mX (by omega))) h):Q→P:=h
theorem Q2G(h:Q→P:=by exact fun h=>wN [pz 0 [] [0], pz 1 [0] [], pz 3 [1] [], pz 7 [2] [], pz 15 [3] [], pz 0 [] [0], pz 32 [5] [], pz 96 [6] [], pz 224 [7] [], pz 480 [8] [], pz 992 [9] [], pz 2016 [10] [], pz 4095 [4, 11] []] [⟨fun y => ai bf 90 [.int .i64 h.w, .int .i64 h.h, .int .i64 h.dep, .int .i64 h.ar, .bool h.aZ, .slice pp pl.length cp, .slice pt tr.length ct, .slice pd nd cd, .slice none 0 0], none, none, [3, 9]⟩, ⟨fun y => R, none, none, []⟩] F V.mixed h):Q→P:=h
theorem QY(h:Q→P:=by exact fun h=>nG V.gD h):Q→P:=h
theorem Q1G(h:Q→P:=by exact fun h=>nE (fun y FF hA => aX (Post := []) (iu h.ar) V.kn rfl .nil (fun v G h => by rcases h with ⟨rfl, rfl⟩; exact ⟨rfl, .refl _⟩)) h):Q→P:=h
theorem Q2H(h:Q→P:=by exact fun h=>bD _ (.cons (d := 0) rfl (.cons (d := 42) rfl (.nil _))) h):Q→P:=h
theorem Q2I(h:Q→P:=by exact fun h=>bb (M := ai bf 90 [.int .i64 h.w, .int .i64 h.h, .int .i64 h.dep, .int .i64 h.ar, .bool h.aZ, .slice pp pl.length cp, .slice pt tr.length ct, .slice pd nd cd, .slice none 0 0] :: R :: F) (fun _ _ h => h) h):Q→P:=h
theorem Q3s(h:Q→P:=by exact fun h=>nR (fun y FF hA => xI V.bK (by exact bG hS aA)) h):Q→P:=h
theorem Q3t(h:Q→P:=by exact fun h=>nR (fun y FF hA => xL V.s5 (by exact bG hS aA)) h):Q→P:=h
theorem Yo(h:Q→P:=by exact fun h=>nE (fun y FF hA => dE (bd V.kA rfl rfl (us := [_, _, _, _]) rfl rfl (by exact fW) (by exact Nat.le_of_ble_eq_true rfl) rfl) ⟨rfl, .refl _⟩) h):Q→P:=h
theorem VO(h:Q→P:=by exact fun h=>bD _ (.cons (d := 4) rfl (.cons (d := 5) rfl (.nil _))) h):Q→P:=h
theorem Si(h:Q→P:=by exact fun h=>au [(0, _), (1, _)] Tryz.func151 rfl Tryz.ntmps151 rfl rfl h):Q→P:=h
theorem WN(h:Q→P:=by exact fun h=>cu (bd V.kA rfl rfl (us := [_, _, _, _]) rfl rfl (by exact zf) (by exact Nat.le_of_ble_eq_true rfl) rfl) h):Q→P:=h
theorem Q4O(h:Q→P:=by exact fun h=>wN [pz 0 [] [6], pz 1 [0] [], pz 3 [1] [], pz 0 [] [6], pz 8 [3] [], pz 24 [4] [], pz 0 [] [6], pz 64 [6] [], pz 192 [7] [], pz 0 [] [11], pz 1023 [2, 5, 8, 9] [], pz 2047 [10] [4], pz 4095 [] []] [⟨fun y => Row (aD 62 .u16) ps v.length cs (v.map (aa.up h.dep)), none, none, [1, 2, 4, 5, 7, 8]⟩, ⟨fun y => ai b4 68 [.int .u16 0, .int .u16 0, .int .u16 0, .int .u16 0], none, some 11, []⟩, ⟨fun y => ai bf 90 [.int .i64 h.w, .int .i64 h.h, .int .i64 h.dep, .int .i64 h.ar, .bool h.aZ, .slice pp pl.length cp, .slice pt tr.length ct, .slice pd nd cd, .slice pk (aa.aR h tr).length ck], none, none, []⟩, ⟨fun y => Rk, none, none, []⟩, ⟨fun y => Rv, none, none, []⟩, ⟨fun y => R, none, none, []⟩, ⟨fun y => ai b4 68 [.int .u16 ((aD 62 .u16).g (v.map (aa.up h.dep)) 0), .int .u16 ((aD 62 .u16).g (v.map (aa.up h.dep)) 0), .int .u16 ((aD 62 .u16).g (v.map (aa.up h.dep)) 0), .int .u16 al2], some 11, none, []⟩] F V.mixed h):Q→P:=h
theorem VB(h:Q→P:=by exact fun h=>nR (fun y FF hA => xI V.ga (own aA)) h):Q→P:=h
theorem Q0P(h:Q→P:=by exact fun h=>nR (fun y FF hA => xL V.lr (own aA)) h):Q→P:=h
theorem Q4P(h:Q→P:=by exact fun h=>nV (fun y hA L => iM V.m9 V.tt rfl (cs := [.int .u16 ((aD 62 .u16).g (v.map (aa.up h.dep)) 0), .int .u16 ((aD 62 .u16).g (v.map (aa.up h.dep)) 0), .int .u16 ((aD 62 .u16).g (v.map (aa.up h.dep)) 0), .int .u16 al2]) (by kernel_rfl)) h):Q→P:=h
theorem Q4Q(h:Q→P:=by exact fun h=>bb (M := Row (aD 62 .u16) ps v.length cs (v.map (aa.up h.dep)) :: ai bf 90 [.int .i64 h.w, .int .i64 h.h, .int .i64 h.dep, .int .i64 h.ar, .bool h.aZ, .slice pp pl.length cp, .slice pt tr.length ct, .slice pd nd cd, .slice pk (aa.aR h tr).length ck] :: Rk :: Rv :: R :: ai b4 68 [.int .u16 ((aD 62 .u16).g (v.map (aa.up h.dep)) 0), .int .u16 ((aD 62 .u16).g (v.map (aa.up h.dep)) 0), .int .u16 ((aD 62 .u16).g (v.map (aa.up h.dep)) 0), .int .u16 al2] :: F) (fun _ _ h => h) h):Q→P:=h
theorem Y6(h:Q→P:=by exact fun h=>bb (sub .nil (.skip (.keep (.keep (.keep (.keep (.keep .refl))))))) h):Q→P:=h
theorem E4(h:Q→P:=by exact fun h=>jz TT 16 rfl (by omega) h):Q→P:=h
theorem vC(h:Q→P:=by exact fun h=>aj (Cf (x + y - z) (by omega) x hx) V.HA  rfl .nil rfl h):Q→P:=h
theorem tV(h:Q→P:=by exact fun h=>aj (Cf (x + y - z) (by omega) y hy) V.HA  rfl .nil rfl h):Q→P:=h
theorem xk(h:Q→P:=by exact fun h=>aj (Cf (x + y - z) (by omega) z hz) V.HA  rfl .nil rfl h):Q→P:=h
theorem VJ(h:Q→P:=by exact fun h=>cu (nf (c := (U5)) (_) V.s5 rfl rfl rfl (by exact fW) (by omega) (by omega) rfl rfl) h):Q→P:=h
theorem IS(h:Q→P:=by exact fun h=>oV (az V.s3 rfl JS rfl) h):Q→P:=h
theorem Vi(h:Q→P:=by exact fun h=>(NG kind p1 c1 n1 L1 R1 hR1 hn1 hB1 p2 c2 n2 L2 R2 hR2 hn2 hB2 back hbk h2 hk hn1s).mono h):Q→P:=h
theorem Q4T(h:Q→P:=by exact fun h=>(BE h bf pp pl cp pt tr ct pd nd cd pk ck R hP hT hcp hB hBt hpl htl Rk hRk hf hs q n c hn hcap pix hpx0 p hp yy hyy pb cb row hrl hBr Rb hRb hbits).mono h):Q→P:=h
theorem YT(h:Q→P:=by exact fun h=>nR (fun y FF hA => xI V.bK (by exact bG hz aA)) h):Q→P:=h
theorem Za(h:Q→P:=by exact fun h=>nR (fun y FF hA => xL V.s5 (by exact bG hz aA)) h):Q→P:=h
theorem YB(h:Q→P:=by exact fun h=>nV (fun y hA L => de (v := .int .i64 (Dt.getD s.a 0)) (cW V.u5 Tryz.underlying3 rfl (aa.BU hKB)) (congrArg (Value.int .i64) hKD)) h):Q→P:=h
theorem M1(h:Q→P:=by exact fun h=>nV (fun y hA L => de (v := .int .i64 ((nr + 1 : Nat) : Int)) (eb (r := 1 + (nr : Int)) rfl rfl wI) (congrArg (Value.int .i64) (by omega))) h):Q→P:=h
theorem OD(h:Q→P:=by exact fun h=>nV (fun y hA L => dY 1 (nr + 1) s.cz V.bK rfl ⟨_, rfl⟩ ⟨_, rfl⟩ rfl (by omega) (by omega) (by omega)) h):Q→P:=h
theorem Q4U(h:Q→P:=by exact fun h=>jf [pz 0 [] [3], pz 1 [0] [], pz 3 [1] [], pz 7 [2] [], pz 0 [] [3], pz 0 [] [11], pz 32 [5] [], pz 112 [4, 6] [], pz 0 [] [13], pz 0 [] [12], pz 1023 [3, 7, 8, 9] [], pz 2047 [10] [], pz 4095 [11] [], pz 4095 [11] [], pz 8191 [12] [], pz 32767 [13] []] [⟨fun y => Rb, none, none, [1, 2, 10]⟩, ⟨fun y => Row U5 s.pa s.na s.ca s.A, none, none, [10]⟩, ⟨fun y => ai b5 26 [.int .i64 h.w, .int .i64 h.h, .slice q n c], none, none, []⟩, ⟨fun y => ai b6 145 [.int .i64 p.x, .int .i64 p.y, .int .i64 p.dx, .int .i64 p.dy, .int .i64 p.w, .int .i64 p.h], none, none, []⟩, ⟨fun y => ai bf 90 [.int .i64 h.w, .int .i64 h.h, .int .i64 h.dep, .int .i64 h.ar, .bool h.aZ, .slice pp pl.length cp, .slice pt tr.length ct, .slice pd nd cd, .slice pk (aa.aR h tr).length ck], none, none, []⟩, ⟨fun y => Row (aD 62 .u16) q n c s.P, none, none, []⟩, ⟨fun y => Rk, none, none, []⟩, ⟨fun y => R, none, none, []⟩, ⟨fun y => Row U5 (ir (y 10)).1 nr (ir (y 10)).2 (aa.eJ (Dt.getD s.a 0) ((Dt.drop (s.a + 1)).take nr) s.A back), some 10, none, []⟩] F V.mixed (by kernel_rfl) rfl (fun _ => .refl _) (aP _ (aP _ (aP _ (aP _ (aP _ (aP _ (aP _ (aP _ (cK _ rfl (by intro y y2 h; simp only [h 10 (.inl rfl)]) eV))))))))) h):Q→P:=h
theorem VZ(h:Q→P:=by exact fun h=>eK (fun y v => .tuple #[.slice (ir v).1 nr (ir v).2, .bool true]) (fun y v => True) _ _ (fun y v => [Row U5 (ir v).1 nr (ir v).2 (aa.eJ (Dt.getD s.a 0) ((Dt.drop (s.a + 1)).take nr) s.A back)]) _ (fun y => rfl) (fun y => rfl) (fun y => rfl) (fun y => rfl) (fun y FF hA => wZ (α := Option Addr × Nat) (fun a => .tuple #[.slice a.1 nr a.2, .bool true]) ir (fun a => [Row U5 a.1 nr a.2 (aa.eJ (Dt.getD s.a 0) ((Dt.drop (s.a + 1)).take nr) s.A back), Rb, Row U5 s.pa s.na s.ca s.A]) (Kw (Dt.getD s.a 0) (dm s.pz 1 s.cz 1) (s.cz - 1) nr ((Dt.drop (s.a + 1)).take nr) Rb hS1 hL1l (aa.fU (aa.dT hDB _) _) s.pa s.ca s.na s.A (Row U5 s.pa s.na s.ca s.A) (fun _ _ hh => hh.rd) hAl hAB back hbk (by omega) (hDB.get _).1 (by omega) hk4) (fun a => rfl) V.SG rfl (aT .nil)) (by intros; rfl) (by intros; rfl) (by intros; rfl) (by intro y y2 h; simp only [h 10 (.inl rfl)]) (by intro y y2 h; rfl) h):Q→P:=h
theorem Wl(h:Q→P:=by exact fun h=>ei _ (fun y => rfl) rfl rfl rfl (fun y hA L => dE (jm rfl) ⟨rfl, rfl⟩) (by intros; rfl) (by intro y y2 h; simp only [h 10 (.inr (by decide))]) h):Q→P:=h
theorem NC(h:Q→P:=by exact fun h=>ei _ (fun y => rfl) rfl rfl rfl (fun y hA L => dE (dQ rfl rfl) ⟨rfl, rfl⟩) (by intros; rfl) (by intro y y2 h; simp only [h 10 (.inr (by decide))]) h):Q→P:=h
theorem VX(h:Q→P:=by exact fun h=>ei _ (fun y => rfl) rfl rfl rfl (fun y hA L => dE (iO rfl) ⟨rfl, rfl⟩) (by intros; rfl) (by intro y y2 h; simp only [h 10 (.inr (by decide))]) h):Q→P:=h
theorem Q4W(h:Q→P:=by exact fun h=>bD [(0, .pointer (some ⟨bf, 0, none⟩)), (3, .slice s.pz (Dt.length - s.a) s.cz), (5, .pointer (some ⟨b5, 0, none⟩)), (6, .pointer (some ⟨b6, 0, none⟩)), (11, .int .i64 (nr : Int)), (12, .int .i64 (back : Int)), (14, .int .i64 (yv : Int)), (15, .slice (ir (y 10)).1 nr (ir (y 10)).2), (16, .bool true), (37, .int .i64 p.h), (38, .int .i64 (yv : Int))] (.cons (d := 0) rfl (.cons (d := 3) rfl (.cons (d := 5) rfl (.cons (d := 6) rfl (.cons (d := 11) rfl (.cons (d := 12) rfl (.cons (d := 14) rfl (.cons (d := 15) rfl (.cons (d := 16) rfl (.cons (d := 37) rfl (.cons (d := 38) rfl (.nil _)))))))))))) h):Q→P:=h
theorem Q4X(h:Q→P:=by exact fun h=>bb (M := Rb :: Row U5 s.pa s.na s.ca s.A :: ai b5 26 [.int .i64 h.w, .int .i64 h.h, .slice q n c] :: ai b6 145 [.int .i64 p.x, .int .i64 p.y, .int .i64 p.dx, .int .i64 p.dy, .int .i64 p.w, .int .i64 p.h] :: ai bf 90 [.int .i64 h.w, .int .i64 h.h, .int .i64 h.dep, .int .i64 h.ar, .bool h.aZ, .slice pp pl.length cp, .slice pt tr.length ct, .slice pd nd cd, .slice pk (aa.aR h tr).length ck] :: Row (aD 62 .u16) q n c s.P :: Rk :: R :: Row U5 (ir (y 10)).1 nr (ir (y 10)).2 (aa.eJ (Dt.getD s.a 0) ((Dt.drop (s.a + 1)).take nr) s.A back) :: F) (fun _ _ h => h) h):Q→P:=h
theorem Q4Y(h:Q→P:=by exact fun h=>bb (sub .nil (.keep (.skip (.keep (.keep (.keep (.keep (.keep (.keep (.keep .refl)))))))))) h):Q→P:=h
theorem Q4Z(h:Q→P:=by exact fun h=>(xl h bf pp pl cp pt tr ct pd nd cd pk ck R hP hT hcp hB hBt hpl htl Rk hRk hf hs q n c hn hcap pix hpx0 p hp Dt hDB hDl nr hnr back hback at0 hat pb cb Rb hRb hcb).mono h):Q→P:=h
theorem vR(h:Q→P:=by exact fun h=>oV (c5 V.uh V.vV rfl (cs := [_, _, _]) rfl) h):Q→P:=h
theorem NY(h:Q→P:=by exact fun h=>cu (bd V.gn rfl rfl (us := [_, _, _]) rfl rfl (by exact JA) (by exact Nat.le_of_ble_eq_true rfl) rfl) h):Q→P:=h
theorem RY(h:Q→P:=by exact fun h=>cu (bd V.gn rfl rfl (us := [_, _, _]) rfl rfl (by exact Vf) (by exact Nat.le_of_ble_eq_true rfl) rfl) h):Q→P:=h
theorem EX(h:Q→P:=by exact fun h=>aj (OX p c B R hR hl hB hcap l h1) V.WK  rfl (.cons ay .nil) rfl h):Q→P:=h
theorem oK(h:Q→P:=by exact fun h=>oV (bR (cE rfl rfl) (fun q => q rfl)) h):Q→P:=h
theorem Eo(h:Q→P:=by exact fun h=>aj (L7 q13 c13 es (Row CK q13 es.length c13 es) (fun _ _ hh => hh.rd) hel (EL hB h1) hcq) V.YW  rfl (aq .nil) rfl h):Q→P:=h
theorem Ib(h:Q→P:=by exact fun h=>oV (fN (c := (CK)) 1 V.jU rfl (own aA) (by omega) (by omega) rfl rfl) h):Q→P:=h
theorem Jc(h:Q→P:=by exact fun h=>aj (PH (CK.g es 0).p (CK.g es 0).c (CK.g es 0).d (DK es) (wE (Nb h3)) (aa.iW hB h1 (CK.g es 0).ch (List.mem_map_of_mem (Nb h3)))) V.Ol  rfl (.cons ay .nil) rfl h):Q→P:=h
theorem MZ(h:Q→P:=by exact fun h=>aj (G7 q13 c13 es (Row CK q13 es.length c13 es) (fun _ _ hh => hh.rd) hel (EL hB h1) hco (by omega)) V.ZB  rfl (.cons bj (.cons ay .nil)) rfl h):Q→P:=h
theorem MK(h:Q→P:=by exact fun h=>oV (dH V.nQ rfl jB (vs := [_, _, _, _, _]) rfl rfl) h):Q→P:=h
theorem Q50(h:Q→P:=by exact fun h=>aj (re h hd b8 s.pp s.P s.cp s.pt s.T s.ct s.pd s.D.length s.cd none 0 0 hlP s.hp true (decide_eq_true ht).symm) V.JB  rfl (aq .nil) rfl h):Q→P:=h
theorem U3(h:Q→P:=by exact fun h=>oV (AA (r := -(65535 : Int) - 1) rfl (af.A6 (by omega) (by omega))) h):Q→P:=h
theorem Fm(h:Q→P:=by exact fun h=>ff (c := (U5)) V.bK V.z5 rfl rfl rfl rfl ay (own aA) (by omega) rfl h):Q→P:=h
theorem UT(h:Q→P:=by exact fun h=>oV (AA (r := -(Z.length : Int) - 1) rfl (af.A6 (by omega) (by omega))) h):Q→P:=h
theorem wU(h:Q→P:=by exact fun h=>oV (cW V.u3 Tryz.underlying5 rfl (af.fY _)) h):Q→P:=h
theorem Np(h:Q→P:=by exact fun h=>nR (fun y FF hA => xI V.n5 (by exact bG hR aA)) h):Q→P:=h
theorem We(h:Q→P:=by exact fun h=>nR (fun y FF hA => fN (c := (aQ)) 0 V.s9 rfl (by exact bG hR aA) (by omega) (by omega) rfl rfl) h):Q→P:=h
theorem Zy(h:Q→P:=by exact fun h=>nR (fun y FF hA => fN (c := (aQ)) 1 V.jU rfl (by exact bG hR aA) (by omega) (by omega) rfl rfl) h):Q→P:=h
theorem Wy(h:Q→P:=by exact fun h=>ff (c := (U5)) V.bK V.z5 rfl rfl rfl rfl dw (own aA) (by omega) rfl h):Q→P:=h
theorem JD(h:Q→P:=by exact fun h=>oV (c5 V.Hr V.E3 rfl (cs := [_, _]) rfl) h):Q→P:=h
theorem UR(h:Q→P:=by exact fun h=>nE (fun y FF hA => dE (nf (c := (aD 62 .u16)) (_) V.lr rfl rfl rfl (by exact fW) (by omega) (by omega) rfl rfl) ⟨rfl, .refl _⟩) h):Q→P:=h
theorem CV(h:Q→P:=by exact fun h=>oV (cW V.u3 Tryz.underlying302 rfl (wF (by omega) (by omega))) h):Q→P:=h
theorem Vt(h:Q→P:=by exact fun h=>oR (ji (r := ((i / 8 : Nat) : Int)) rfl rfl (by decide) (W7 (by omega))) h):Q→P:=h
theorem IL(h:Q→P:=by exact fun h=>oV (gS (r := 2 ^ d) rfl rfl (by omega) (aa.KA hd)) h):Q→P:=h
theorem I8(h:Q→P:=by exact fun h=>aj (Lz) V.yq  rfl .nil rfl h):Q→P:=h
theorem sQ(h:Q→P:=by exact fun h=>nR (fun y FF hA => xI V.XR (by exact bG (fun _ _ h => h) aA)) h):Q→P:=h
theorem Wz(h:Q→P:=by exact fun h=>nR (fun y FF hA => fN (c := (C3)) 0 V.s5 rfl (by exact bG (fun _ _ h => h) aA) (by omega) (by omega) rfl rfl) h):Q→P:=h
theorem Wb(h:Q→P:=by exact fun h=>nR (fun y FF hA => fN (c := (C3)) 1 V.s5 rfl (by exact bG (fun _ _ h => h) aA) (by omega) (by omega) rfl rfl) h):Q→P:=h
theorem VU(h:Q→P:=by exact fun h=>nR (fun y FF hA => fN (c := (C3)) 2 V.s5 rfl (by exact bG (fun _ _ h => h) aA) (by omega) (by omega) rfl rfl) h):Q→P:=h
theorem UM(h:Q→P:=by exact fun h=>oV (jG (r := (vv.getD i 0 % 2 ^ d)) rfl rfl (aa.FZ (by omega) hd)) h):Q→P:=h
theorem N1(h:Q→P:=by exact fun h=>aj (TZ mR q cq (aa.dN ((aa.cQ vv d).take i) d) (vv.getD i 0 % 2 ^ d) d (by omega) (by omega) (by omega)) V.EU  rfl (aT .nil) rfl h):Q→P:=h
theorem Sm(h:Q→P:=by exact fun h=>oV (bR (cE rfl rfl) (fun hx => hx rfl)) h):Q→P:=h
theorem IE(h:Q→P:=by exact fun h=>nV (fun y hA L => cW V.u5 Tryz.underlying62 rfl (aa.np (by omega))) h):Q→P:=h
theorem Qk(h:Q→P:=by exact fun h=>(Q7)<|(Q0) h):Q→P:=h
theorem Qf(h:Q→P:=by exact fun h=>(Qe)<|(Q0) h):Q→P:=h
theorem Qz(h:Q→P:=by exact fun h=>(Q8)<|(Q0) h):Q→P:=h
theorem YU(h:Q→P:=by exact fun h=>(mP)<|(mA) h):Q→P:=h
theorem QE(h:Q→P:=by exact fun h=>(QC)<|(Q1) h):Q→P:=h
theorem N8(h:Q→P:=by exact fun h=>oV (xI V.cA (by exact bG hR jB))<|oV (xL V.s3 (by exact bG hR jB)) h):Q→P:=h
theorem Zg(h:Q→P:=by exact fun h=>(QM)<|(Qk) h):Q→P:=h
theorem VV(h:Q→P:=by exact fun h=>bD _ (.cons (d := 6) rfl (.cons (d := 42) rfl (.nil _)))<|bb (M := R :: Row U5 q22 x.length c22 x :: F) (fun _ _ h => h) h):Q→P:=h
theorem Vw(h:Q→P:=by exact fun h=>oV (fP (r := (aa.up d x)) rfl rfl (aa.up_mul hP hd hx.1 hxP))<|oV (cW V.u3 Tryz.underlying62 rfl (aa.np hui)) h):Q→P:=h
theorem oE(h:Q→P:=by exact fun h=>df<|bg h):Q→P:=h
theorem QQ(h:Q→P:=by exact fun h=>(Ql)<|(Q0) h):Q→P:=h
theorem Yz(h:Q→P:=by exact fun h=>nN<|(YU) h):Q→P:=h
theorem Qw(h:Q→P:=by exact fun h=>nM<|(Yz) h):Q→P:=h
theorem QZ(h:Q→P:=by exact fun h=>(Q3)<|(Q0) h):Q→P:=h
theorem Q5e(h:Q→P:=by exact fun h=>nR (fun y FF hA => xI V.cA (by exact bG hR aA))<|nR (fun y FF hA => xL V.s3 (by exact bG hR aA)) h):Q→P:=h
theorem Q02(h:Q→P:=by exact fun h=>(l8)<|(wT) h):Q→P:=h
theorem Q1c(h:Q→P:=by exact fun h=>nG V.jq<|(pY) h):Q→P:=h
theorem tv(h:Q→P:=by exact fun h=>(Q4)<|(Ql) h):Q→P:=h
theorem Q04(h:Q→P:=by exact fun h=>(l9)<|(Q0) h):Q→P:=h
theorem QF(h:Q→P:=by exact fun h=>nA<|(Qb) h):Q→P:=h
theorem rD(h:Q→P:=by exact fun h=>(Q6)<|(Q0) h):Q→P:=h
theorem Q0a(h:Q→P:=by exact fun h=>(QM)<|(Qj) h):Q→P:=h
theorem Q3K(h:Q→P:=by intro h;refine (IK) ?_;exact nR (fun y FF hA => xL V.s5 (own aA)) h):Q→P:=h
theorem H9(h:Q→P:=by intro h;refine (Qa) ?_;exact oV (xI V.rQ (own aA)) h):Q→P:=h
theorem Q0g(h:Q→P:=by exact fun h=>(Qq)<|(Qz) h):Q→P:=h
theorem Q0h(h:Q→P:=by exact fun h=>(Q4)<|(Zg) h):Q→P:=h
theorem Q3L(h:Q→P:=by intro h;refine (NC) ?_;exact nV (fun y hA L => dQ rfl rfl) h):Q→P:=h
theorem Va(h:Q→P:=by intro h;refine (QA) ?_;exact aj (mg (aH.cV B) (aH.cV (B.drop 4))) V.vr  rfl .nil rfl h):Q→P:=h
theorem WM(h:Q→P:=by exact fun h=>oR (xL V.s5 (by exact bG hR aA))<|oR (cW V.u5 Tryz.underlying3 rfl wI) h):Q→P:=h
theorem Q5h(h:Q→P:=by intro h;refine (Qv) ?_;exact nV (fun y hA L => fP (r := (aa.parts h.ar * h.dep)) rfl rfl wI) h):Q→P:=h
theorem V8(h:Q→P:=by intro h;refine (QJ) ?_;exact oV (de (v := .bool true) (KQ Tryz.underlying204 rfl rfl) rfl) h):Q→P:=h
theorem Q0v(h:Q→P:=by exact fun h=>(QD)<|(Qk) h):Q→P:=h
theorem Q0w(h:Q→P:=by exact fun h=>(Qq)<|(Qk) h):Q→P:=h
theorem VE(h:Q→P:=by exact fun h=>oR (xI V.ga (by exact bG hR1 dL))<|oR (xL V.lr (by exact bG hR1 dL)) h):Q→P:=h
theorem V2(h:Q→P:=by exact fun h=>oR (xI V.ga (by exact bG hR2 ig))<|oR (xL V.lr (by exact bG hR2 ig)) h):Q→P:=h
theorem VC(h:Q→P:=by intro h;refine (Qk) ?_;exact oV (de (v := .bool false) (az V.s4 rfl dL rfl) (by rw [he])) h):Q→P:=h
theorem Q5m(h:Q→P:=by intro h;refine (Qf) ?_;exact oV (jG (r := 32 * ((U5.g B 1) / 32 % 2)) rfl rfl (aH.CC hw)) h):Q→P:=h
theorem Vm(h:Q→P:=by exact fun h=>oR (xI V.cA (by exact bG hR1 aA))<|oR (xL V.s3 (by exact bG hR1 aA)) h):Q→P:=h
theorem VW(h:Q→P:=by exact fun h=>oR (xI V.cA (by exact bG hR2 dM))<|oR (xL V.s3 (by exact bG hR2 dM)) h):Q→P:=h
theorem V1(h:Q→P:=by exact fun h=>oV (xI V.cA (by exact bG hRv ig))<|oV (xL V.s3 (by exact bG hRv ig)) h):Q→P:=h
theorem Wm(h:Q→P:=by intro h;refine (Zx) ?_;exact iL rfl (cs := [_, _, _, _, _, _, _, _, _, _, _, _, _]) rfl rfl h):Q→P:=h
theorem VP(h:Q→P:=by exact fun h=>oV (xI V.cA (by exact bG hR aA))<|oV (xL V.s3 (by exact bG hR aA)) h):Q→P:=h
theorem V6(h:Q→P:=by intro h;refine (Q0) ?_;exact oV (dH V.a145 rfl dL (vs := [_, _, _, _, _, _]) rfl rfl) h):Q→P:=h
theorem AV(h:Q→P:=by intro h;refine (oE) ?_;exact zE rfl h):Q→P:=h
theorem Wj(h:Q→P:=by exact fun h=>oV (cW V.u3 Tryz.underlying76 rfl (aH.wrap32 hn4.1 hn4.2))<|(Qe) h):Q→P:=h
theorem Q0F(h:Q→P:=by exact fun h=>(jA)<|(jA) h):Q→P:=h
theorem AO(h:Q→P:=by exact fun h=>(Qg)<|(QM) h):Q→P:=h
theorem rG(h:Q→P:=by exact fun h=>(nO)<|(Q3) h):Q→P:=h
theorem Ww(h:Q→P:=by intro h;refine (QJ) ?_;exact aj (G2 p cap B R hR hl) V.Yd  rfl (aq .nil) rfl h):Q→P:=h
theorem Q5v(h:Q→P:=by intro h;refine (sQ) ?_;exact nV (fun y hA L => dh 0 rfl V.lL rfl rfl (by omega)) h):Q→P:=h
theorem Q5w(h:Q→P:=by intro h;refine (sQ) ?_;exact nV (fun y hA L => dh 1 rfl V.lL rfl rfl (by omega)) h):Q→P:=h
theorem Q5x(h:Q→P:=by intro h;refine (sQ) ?_;exact nV (fun y hA L => dh 2 rfl V.lL rfl rfl (by omega)) h):Q→P:=h
end Go.Sl
namespace Go.Sl
open Go.RowKit (Below)
abbrev Hp := Nat → Option Obj
def Hp.le (a b : Hp) : Prop := ∀ n o, a n = some o → b n = some o
def Hp.lz (a b : Hp) : Prop := ∀ n, a n = none ∨ b n = none
def Hp.join (a b : Hp) : Hp := fun n => match a n with | some o => some o | none => b n
theorem Hp.le_refl (a : Hp) : a.le a := fun _ _ h => h
theorem Hp.le_trans {a b c : Hp} (h : a.le b) (k : b.le c) : a.le c := fun n o e => k n o (h n o e)
theorem Hp.k9 {a b : Hp} (h : a.lz b) : b.lz a := fun n => (h n).symm
theorem Hp.jH {a a' b b' : Hp} (h : a.lz b) (ha : a'.le a) (hb : b'.le b) : a'.lz b' := fun n => by
 rcases h n with h | h
 ·left
  cases e : a' n with
  | none => rfl
  | some o => rw [ha n o e] at h; cases h
 ·right
  cases e : b' n with
  | none => rfl
  | some o => rw [hb n o e] at h; cases h
theorem Hp.jo (a b : Hp) : a.le (a.join b) := fun n o h => by simp [Hp.join, h]
theorem Hp.iR {a b : Hp} (hd : a.lz b) : b.le (a.join b) := fun n o h => by
 rcases hd n with e | e
 ·simp [Hp.join, e, h]
 ·rw [e] at h; cases h
theorem Hp.join_le {a b c : Hp} (h : a.le c) (k : b.le c) : (a.join b).le c := fun n o e => by
 unfold Hp.join at e
 split at e
 ·rename_i x hx; cases e; exact h n _ hx
 ·exact k n o e
theorem Hp.pS {a b c : Hp} (h : a.lz c) (k : b.lz c) : (a.join b).lz c := fun n => by
 rcases h n with e | e
 ·rcases k n with e' | e'
  ·left; simp [Hp.join, e, e']
  ·exact .inr e'
 ·exact .inr e
abbrev ab := World → Hp → Prop
def bU (w0 : World) : List ab → Hp → Prop
 | [], _ => True
 | p :: l, h => ∃ h1 h2, Hp.lz h1 h2 ∧ Hp.le h1 h ∧ Hp.le h2 h ∧ p w0 h1 ∧ bU w0 l h2
theorem pK {w0 : World} : ∀ {L : List ab} {h h' : Hp}, Hp.le h h' → bU w0 L h → bU w0 L h'
 | [], _, _, _, _ => trivial
 | _ :: _, _, _, hl, ⟨h1, h2, d, l1, l2, p, r⟩ => ⟨h1, h2, d, Hp.le_trans l1 hl, Hp.le_trans l2 hl, p, r⟩
theorem iV {w0 : World} : ∀ {L M : List ab} {h : Hp}, bU w0 (L ++ M) h ↔ ∃ h1 h2, Hp.lz h1 h2 ∧ Hp.le h1 h ∧ Hp.le h2 h ∧ bU w0 L h1 ∧ bU w0 M h2
 | [], M, h => ⟨fun k => ⟨fun _ => none, h, fun _ => .inl rfl, fun _ _ e => by simp at e, Hp.le_refl _, trivial, k⟩, fun ⟨_, _, _, _, l, _, k⟩ => pK l k⟩
 | p :: L, M, h => by
  constructor
  ·rintro ⟨h1, h2, d, l1, l2, hp, k⟩
   obtain ⟨g1, g2, d', m1, m2, k1, k2⟩ := iV.1 k
   refine ⟨h1.join g1, g2, ?_, ?_, Hp.le_trans m2 l2, ?_, k2⟩
   ·exact Hp.pS (Hp.jH d (Hp.le_refl _) m2) d'
   ·exact Hp.join_le l1 (Hp.le_trans m1 l2)
   ·exact ⟨h1, g1, Hp.jH d (Hp.le_refl _) m1, Hp.jo _ _, Hp.iR (Hp.jH d (Hp.le_refl _) m1), hp, k1⟩
  ·rintro ⟨h1, h2, d, l1, l2, ⟨g1, g2, d', m1, m2, hp, k1⟩, k2⟩
   refine ⟨g1, g2.join h2, ?_, Hp.le_trans m1 l1, ?_, hp, ?_⟩
   ·exact Hp.k9 (Hp.pS (Hp.k9 d') (Hp.k9 (Hp.jH d m1 (Hp.le_refl _))))
   ·exact Hp.join_le (Hp.le_trans m2 l1) l2
   ·exact iV.2 ⟨g2, h2, Hp.jH d m2 (Hp.le_refl _), Hp.jo _ _, Hp.iR (Hp.jH d m2 (Hp.le_refl _)), k1, k2⟩
theorem CY {w0 : World} {L M : List ab} (hp : L.Perm M) : ∀ {h : Hp}, bU w0 L h → bU w0 M h := by
 induction hp with
 | nil => exact fun k => k
 | cons p _ ih => exact fun ⟨h1, h2, d, l1, l2, hp, k⟩ => ⟨h1, h2, d, l1, l2, hp, ih k⟩
 | swap p q l =>
  rintro h ⟨h1, h2, d, l1, l2, hp, g1, g2, d', m1, m2, hq, k⟩
  refine ⟨g1, h1.join g2, ?_, Hp.le_trans m1 l2, ?_, hq, h1, g2, ?_, Hp.jo _ _, ?_, hp, k⟩
  ·exact Hp.k9 (Hp.pS (Hp.jH d (Hp.le_refl _) m1) (Hp.k9 d'))
  ·exact Hp.join_le l1 (Hp.le_trans m2 l2)
  ·exact Hp.jH d (Hp.le_refl _) m2
  ·exact Hp.iR (Hp.jH d (Hp.le_refl _) m2)
 | trans _ _ ih1 ih2 => exact fun k => ih2 (ih1 k)
structure Inv (w0 : World) (L : List ab) (w : World) : Prop where
 below : Below w0.heap.size w0 w
 heap : ∃ h : Hp, (∀ b o, h b = some o → w0.heap.size ≤ b ∧ w.heap[b]? = some o) ∧ bU w0 L h
theorem Inv.perm {w0 w : World} {L M : List ab} (hi : Inv w0 L w) (hp : L.Perm M) : Inv w0 M w :=
 ⟨hi.below, let ⟨h, a, b⟩ := hi.heap; ⟨h, a, CY hp b⟩⟩
theorem Inv.tail {w0 w : World} {A : ab} {L : List ab} (hi : Inv w0 (A :: L) w) : Inv w0 L w :=
 ⟨hi.below, let ⟨h, a, _, _, _, _, l2, _, k⟩ := hi.heap; ⟨h, a, pK l2 k⟩⟩
theorem Inv.right {w0 w : World} {L M : List ab} (hi : Inv w0 (L ++ M) w) : Inv w0 M w :=
 ⟨hi.below, let ⟨h, a, k⟩ := hi.heap; let ⟨_, _, _, _, l2, _, k2⟩ := iV.1 k; ⟨h, a, pK l2 k2⟩⟩
theorem Inv.start (w : World) : Inv w [] w := ⟨Below.refl _ _, ⟨fun _ => none, ⟨fun _ _ e => (by simp at e), trivial⟩⟩⟩
theorem Inv.vn {w0 w : World} {A : ab} {L : List ab} {ι : Sort _} {K : ι → Prop} {B : ι → List ab} (hA : ∀ h, A w0 h → ∃ i, K i ∧ bU w0 (B i) h) (hi : Inv w0 (A :: L) w) : ∃ i, K i ∧ Inv w0 (B i ++ L) w := by
 obtain ⟨hb, h, a, h1, h2, d, l1, l2, p, k⟩ := hi
 obtain ⟨i, c, s⟩ := hA h1 p
 exact ⟨i, c, hb, h, a, iV.2 ⟨h1, h2, d, l1, l2, s, k⟩⟩
theorem Inv.cls {w0 w : World} {A : ab} {B L : List ab} (hA : ∀ h, bU w0 B h → A w0 h) (hi : Inv w0 (B ++ L) w) : Inv w0 (A :: L) w := by
 obtain ⟨hb, h, a, k⟩ := hi
 obtain ⟨h1, h2, d, l1, l2, k1, k2⟩ := iV.1 k
 exact ⟨hb, h, a, h1, h2, d, l1, l2, hA h1 k1, k2⟩
theorem Inv.imp {w0 w : World} {A B : ab} {L : List ab} (hA : ∀ h, A w0 h → B w0 h) (hi : Inv w0 (A :: L) w) : Inv w0 (B :: L) w := by
 obtain ⟨hb, h, a, h1, h2, d, l1, l2, p, k⟩ := hi
 exact ⟨hb, h, a, h1, h2, d, l1, l2, hA _ p, k⟩
def Mk (e : Bool) (n : Nat) : Nat × Nat := cond e (n, n + 1) (0, 0)
def ai (b : Nat) (T : TypeId) (cs : List Value) : ab := fun _ h => ∃ e, h b = some (.cells cs.toArray T (Mk e cs.length))
theorem ai.mono {b : Nat} {T : TypeId} {cs : List Value} {w0 : World} {g h : Hp} (l : Hp.le g h) (c : ai b T cs w0 g) : ai b T cs w0 h := let ⟨e, p⟩ := c; ⟨e, l _ _ p⟩
def Pr (p : Prop) : ab := fun _ _ => p
def oZ (l : List ab) : ab := fun w0 h => bU w0 l h
theorem Inv.FB {w0 w : World} {l L : List ab} (hi : Inv w0 (oZ l :: L) w) : Inv w0 (l ++ L) w :=
 let ⟨_, _, k⟩ := Inv.vn (ι := Unit) (K := fun _ => True) (B := fun _ => l) (fun h s => ⟨(), trivial, s⟩) hi; k
theorem Inv.star {w0 w : World} {l L : List ab} (hi : Inv w0 (l ++ L) w) : Inv w0 (oZ l :: L) w := Inv.cls (fun _ s => s) hi
theorem Inv.RB {w0 w : World} {b : Nat} {T : TypeId} {cs : List Value} {L : List ab} (hi : Inv w0 (ai b T cs :: L) w) : w0.heap.size ≤ b :=
 let ⟨_, _, a, _, _, _, l1, _, ⟨_, p⟩, _⟩ := hi; (a _ _ (l1 _ _ p)).1
theorem Inv.pR {w0 w : World} {b : Nat} {T : TypeId} {cs : List Value} {L : List ab} (hi : Inv w0 (ai b T cs :: L) w) : ∃ e, w.heap[b]? = some (.cells cs.toArray T (Mk e cs.length)) :=
 let ⟨_, _, a, _, _, _, l1, _, ⟨e, p⟩, _⟩ := hi; ⟨e, (a _ _ (l1 _ _ p)).2⟩
theorem Inv.ie {w0 w : World} {b : Nat} {T : TypeId} {cs : List Value} {L : List ab} (hi : Inv w0 (ai b T cs :: L) w) (o : Nat) : w.cell? ⟨b, o, none⟩ = cs[o]? := by
 obtain ⟨e, h⟩ := hi.pR
 simp [World.cell?, h]
theorem Inv.tx {w0 w : World} {b : Nat} {T : TypeId} {cs : List Value} {L : List ab} (hi : Inv w0 (ai b T cs :: L) w) (o : Nat) (ho : o < cs.length) : w.frozen? ⟨b, o, none⟩ = false := by
 obtain ⟨e, h⟩ := hi.pR
 cases e
 ·simp [World.frozen?, h, Mk]
 ·simp [World.frozen?, h, Mk]; omega
theorem Inv.alloc {w0 w : World} {L : List ab} (hi : Inv w0 L w) (T : TypeId) (cs : List Value) : Inv w0 (ai w.heap.size T cs :: L) (w.alloc (.cells cs.toArray T)) := by
 obtain ⟨hb, h, a, k⟩ := hi
 have hd : Hp.lz (fun b => if b = w.heap.size then some (Obj.cells cs.toArray T (0, 0)) else none) h := fun n => by
  by_cases e : n = w.heap.size
  ·right
   cases hn : h n with
   | none => rfl
   | some o =>
    have := (a n o hn).2
    rw [e] at this
    simp at this
  ·left; simp [e]
 refine ⟨hb.alloc hb.size _, Hp.join _ h, ?_, _, h, hd, Hp.jo _ _, Hp.iR hd, ⟨false, by simp [Mk]⟩, k⟩
 intro b o e
 unfold Hp.join at e
 by_cases hbs : b = w.heap.size
 ·subst hbs
  simp at e
  subst e
  exact ⟨hb.size, by show (w.heap.push _)[w.heap.size]? = _; simp⟩
 ·simp [hbs] at e
  obtain ⟨g1, g2⟩ := a b o e
  refine ⟨g1, ?_⟩
  show (w.heap.push _)[b]? = _
  rw [Array.getElem?_push, if_neg hbs]
  exact g2
theorem Inv.write {w0 w w' : World} {b : Nat} {T : TypeId} {cs cs' : List Value} {L : List ab} (hi : Inv w0 (ai b T cs :: L) w)
  (hos : w'.os = w.os) (ht : w'.tape = w.tape) (ho : w'.output = w.output) (hs : w.heap.size ≤ w'.heap.size)
  {e' : Bool} (hblk : w'.heap[b]? = some (.cells cs'.toArray T (Mk e' cs'.length))) (hoth : ∀ k, k ≠ b → k < w.heap.size → w'.heap[k]? = w.heap[k]?) : Inv w0 (ai b T cs' :: L) w' := by
 have hge := hi.RB
 obtain ⟨hb, h, a, h1, h2, d, l1, l2, ⟨_, p⟩, k⟩ := hi
 have hlt : ∀ j o, w.heap[j]? = some o → j < w.heap.size := fun j o e => by
  rcases Nat.lt_or_ge j w.heap.size with h | h
  ·exact h
  ·simp [Array.getElem?_eq_none h] at e
 have hd : Hp.lz (fun n => if n = b then some (Obj.cells cs'.toArray T (Mk e' cs'.length)) else none) h2 := fun n => by
  by_cases e : n = b
  ·right
   rcases d n with x | x
   ·rw [e, p] at x; cases x
   ·exact x
  ·left; simp [e]
 refine ⟨hb.trans ⟨hos, ht, ho, hs, fun j hj => ?_⟩, Hp.join _ h2, ?_, _, h2, hd, Hp.jo _ _, Hp.iR hd, ⟨e', by simp⟩, k⟩
 ·have := hb.size
  exact hoth j (by omega) (by omega)
 ·intro j o e
  unfold Hp.join at e
  by_cases hj : j = b
  ·subst hj
   simp at e
   subst e
   exact ⟨hge, hblk⟩
  ·simp [hj] at e
   obtain ⟨g1, g2⟩ := a j o (l2 j o e)
   exact ⟨g1, by rw [hoth j hj (hlt j o g2)]; exact g2⟩
theorem Inv.setCell {w0 w : World} {b : Nat} {T : TypeId} {cs : List Value} {L : List ab} (hi : Inv w0 (ai b T cs :: L) w) (o : Nat) (v : Value) : Inv w0 (ai b T (cs.set o v) :: L) (w.setCell ⟨b, o, none⟩ v) := by
 obtain ⟨e, hbl⟩ := hi.pR
 refine hi.write (e' := e) rfl rfl rfl (by simp) ?_ ?_
 ·simp [World.setCell, Array.getElem?_modify, hbl]
 ·intro k hk _
  exact Below.heap_setCell _ _ _ _ hk
theorem Inv.drew {w0 w : World} {L : List ab} (hi : Inv w0 L w) : Inv w0 L w.drew :=
 ⟨hi.below.drew, hi.heap⟩
abbrev Env := List (Nat × Value)
def Env.get : Env → Nat → Option Value
 | [], _ => none
 | (k, v) :: E, d => cond (Nat.beq k d) (some v) (Env.get E d)
structure Ctx where
 P : Program
 w0 : World
 n : Nat
 D : List Deferred
 X : List PanicEntry → List ab → Prop
structure ft (C : Ctx) (E : Env) (a : Act) : Prop where
 defers : a.defers = C.D
 size : a.tmps.size = C.n
 get : ∀ d v, E.get d = some v → a.tmps[d]? = some v
def an (E : Env) : Operand → Option Value
 | .tmp t => E.get t
 | .const v => some v
 | .global g => some (.pointer (some ⟨g, 0, none⟩))
 | .func f => some (.func (.func f) #[] #[])
theorem ft.eval {C : Ctx} {E : Env} {a : Act} (h : ft C E a) {x : Operand} {v : Value} (e : an E x = some v) : a.eval x = v := by
 cases x with
 | tmp t => simp only [an] at e; simp [Act.eval, h.get t v e]
 | const u => simpa [an, Act.eval] using e
 | global g => simpa [an, Act.eval] using e
 | func f => simpa [an, Act.eval] using e
theorem Env.ic (k : Nat) (v : Value) (E : Env) (d : Nat) : Env.get ((k, v) :: E) d = if k = d then some v else Env.get E d := by
 simp only [Env.get]
 by_cases h : k = d
 ·subst h; simp
 ·have : Nat.beq k d = false := by
   cases hb : Nat.beq k d with
   | false => rfl
   | true => exact absurd (Nat.eq_of_beq_eq_true hb) h
  simp [this, h]
theorem ft.put {C : Ctx} {E : Env} {a : Act} (h : ft C E a) {d : Nat} (hd : d < C.n) (v : Value) : ft C ((d, v) :: E) (a.put (some d) v) := by
 refine ⟨h.defers, by simp [Act.put, h.size], fun k u e => ?_⟩
 rw [Env.ic] at e
 simp only [Act.put, Array.getElem?_setIfInBounds]
 by_cases hk : d = k
 ·subst hk
  simp at e
  simp [h.size, hd, e]
 ·simp only [hk, if_false] at e ⊢
  exact h.get k u e
def Le (E' E : Env) : Prop := ∀ d v, E'.get d = some v → E.get d = some v
theorem ft.le {C : Ctx} {E E' : Env} {a : Act} (h : ft C E a) (l : Le E' E) : ft C E' a := ⟨h.defers, h.size, fun d v e => h.get d v (l d v e)⟩
theorem Le.refl (E : Env) : Le E E := fun _ _ e => e
theorem Le.nil (E : Env) : Le [] E := fun _ _ e => by cases e
theorem Le.cons {E E' : Env} {d : Nat} {v : Value} (h : E.get d = some v) (l : Le E' E) : Le ((d, v) :: E') E := fun k u e => by
 rw [Env.ic] at e
 by_cases hk : d = k
 ·subst hk; simp at e; rw [← e]; exact h
 ·simp only [hk, if_false] at e; exact l k u e
abbrev QT := Exit → Env → List ab → Prop
def Qh (C : Ctx) (Q : QT) : Exit → Act → World → Prop := fun e a w => ∃ E L, ft C E a ∧ Inv C.w0 L w ∧ Q e E L
def Wp (C : Ctx) (c : Code) (Q : QT) (E : Env) (L : List ab) : Prop := ∀ a w, ft C E a → Inv C.w0 L w → c.wp C.P (Qh C Q) a w
def cy (C : Ctx) (ops : Array Oper) (l : List Oper) (Q : QT) (E : Env) (L : List ab) : Prop := ∀ a w, ft C E a → Inv C.w0 L w → wpList C.P ops (Qh C Q) l a w
def ij (k : Env → List ab → Prop) (Q : QT) : QT := fun e E L => match e with | .normal => k E L | e => Q e E L
def kC (id : Nat) (Q : QT) : QT := fun e E L => match e with | .exit i => cond (Nat.beq i id) (Q .normal E L) (Q (.exit i) E L) | e => Q e E L
section
variable {C : Ctx} {Q : QT} {E : Env} {L : List ab}
theorem Wp.mono {c : Code} {Q' : QT} (h : Wp C c Q E L) (hq : ∀ e E L, Q e E L → Q' e E L) : Wp C c Q' E L :=
 fun a w ha hi => Code.wp_mono (fun e a w ⟨E, L, x, y, z⟩ => ⟨E, L, x, y, hq e E L z⟩) (h a w ha hi)
theorem Wp.weaken {c : Code} {E' : Env} {L' : List ab} (h : Wp C c Q E' L') (l : Le E' E) (hp : L.Perm L') : Wp C c Q E L :=
 fun a w ha hi => h a w (ha.le l) (hi.perm hp)
theorem bD {c : Code} (E' : Env) (l : Le E' E) (h : Wp C c Q E' L) : Wp C c Q E L := h.weaken l (List.Perm.refl _)
theorem Rh {c : Code} {L' : List ab} (hp : L.Perm L') (h : Wp C c Q E L') : Wp C c Q E L := h.weaken (Le.refl _) hp
theorem BN {c : Code} {A : ab} {ι : Sort _} {K : ι → Prop} {B : ι → List ab} (hA : ∀ h, A C.w0 h → ∃ i, K i ∧ bU C.w0 (B i) h)
  (k : ∀ i, K i → Wp C c Q E (B i ++ L)) : Wp C c Q E (A :: L) := fun a w ha hi => let ⟨i, c, s⟩ := hi.vn hA; k i c a w ha s
theorem iN {x y : Code} (h : Wp C x (ij (fun E L => Wp C y Q E L) Q) E L) : Wp C (.seq x y) Q E L := fun a w ha hi =>
 Go.wp_seq (Code.wp_mono (fun e a w ⟨E, L, ha, hi, q⟩ => by
  cases e with
  | normal => exact q a w ha hi
  | exit _ => exact ⟨E, L, ha, hi, q⟩
  | goto _ => exact ⟨E, L, ha, hi, q⟩
  | ret => exact ⟨E, L, ha, hi, q⟩
  | panic _ => exact ⟨E, L, ha, hi, q⟩
  | outgrown => exact ⟨E, L, ha, hi, q⟩) (h a w ha hi))
theorem bg {k : Env → List ab → Prop} (h : k E L) : ij k Q .normal E L := h
theorem PU (h : Q .normal E L) : Wp C .skip Q E L := fun a w ha hi => Go.wp_skip ⟨E, L, ha, hi, h⟩
theorem I7 (h : Q .ret E L) : Wp C .ret Q E L := fun a w ha hi => Go.wp_ret ⟨E, L, ha, hi, h⟩
theorem Sj {id : Nat} (h : Q (.exit id) E L) : Wp C (.exit id) Q E L := fun a w ha hi => Go.wp_exit ⟨E, L, ha, hi, h⟩
theorem nF {id : Nat} {c : Code} (h : Wp C c (kC id Q) E L) : Wp C (.block id c) Q E L := fun a w ha hi =>
 Go.wp_block (Code.wp_mono (fun e a w ⟨E, L, ha, hi, q⟩ => by
  cases e with
  | exit i =>
   simp only [kC] at q
   simp only [Exit.inBlock]
   by_cases hid : i = id
   ·subst hid
    simp at q ⊢
    exact ⟨E, L, ha, hi, q⟩
   ·have : Nat.beq i id = false := by
     cases hb : Nat.beq i id with
     | false => rfl
     | true => exact absurd (Nat.eq_of_beq_eq_true hb) hid
    simp [this] at q
    simp only [hid, if_false]
    exact ⟨E, L, ha, hi, q⟩
  | normal => exact ⟨E, L, ha, hi, q⟩
  | goto _ => exact ⟨E, L, ha, hi, q⟩
  | ret => exact ⟨E, L, ha, hi, q⟩
  | panic _ => exact ⟨E, L, ha, hi, q⟩
  | outgrown => exact ⟨E, L, ha, hi, q⟩) (h a w ha hi))
theorem tz {c : Operand} {x y : Code} {b : Bool} (hc : an E c = some (.bool b)) (ht : b = true → Wp C x Q E L) (hf : b = false → Wp C y Q E L) : Wp C (.cond c x y) Q E L :=
 fun a w ha hi => Go.wp_cond_split (ha.eval hc) (fun e => ht e a w ha hi) (fun e => hf e a w ha hi)
theorem nu {c : Operand} {x y : Code} (hc : an E c = some (.bool true)) (h : Wp C x Q E L) : Wp C (.cond c x y) Q E L :=
 fun a w ha hi => Go.wp_cond_true (ha.eval hc) (h a w ha hi)
theorem zE {c : Operand} {x y : Code} (hc : an E c = some (.bool false)) (h : Wp C y Q E L) : Wp C (.cond c x y) Q E L :=
 fun a w ha hi => Go.wp_cond_false (ha.eval hc) (h a w ha hi)
theorem aF {c : Operand} {x y : Code} {p : Prop} [Decidable p] (hc : an E c = some (.bool (decide p))) (ht : p → Wp C x Q E L) (hf : ¬ p → Wp C y Q E L) : Wp C (.cond c x y) Q E L :=
 tz hc (fun e => ht (of_decide_eq_true e)) (fun e => hf (of_decide_eq_false e))
theorem Rf {c : Code} (R : Nat → Env → List ab → Prop) (m : Nat) (h0 : R m E L)
  (h : ∀ m E L, R m E L → Wp C c (ij (fun E' L' => ∃ m', m' < m ∧ R m' E' L') Q) E L) : Wp C (.loop c) Q E L := by
 intro a w ha hi b k cs
 have key : ∀ n a w, (∃ E L, ft C E a ∧ Inv C.w0 L w ∧ R n E L) →
   ∃ e a' w', Qh C Q e a' w' ∧ Arrives C.P (lone (b.at a (.code c :: .inLoop c :: k)) cs w) b k cs e a' w' := by
  intro n
  induction n using Nat.strongRecOn with
  | _ n ih =>
   rintro a w ⟨E, L, ha, hi, hR⟩
   obtain ⟨e, a₁, w₁, hq, harr⟩ := h n E L hR a w ha hi b (.inLoop c :: k) cs
   cases e with
   | normal =>
    obtain ⟨E₁, L₁, ha₁, hi₁, m', hlt, hR₁⟩ := hq
    obtain ⟨e₂, a₂, w₂, hq₂, harr₂⟩ := ih m' hlt a₁ w₁ ⟨E₁, L₁, ha₁, hi₁, hR₁⟩
    exact ⟨e₂, a₂, w₂, hq₂, .of_steps (Steps.trans harr (.one step_inLoop)) harr₂⟩
   | exit id => exact ⟨_, a₁, w₁, hq, .pass (x := .inLoop c) rfl (fun _ _ => .inl (by simp)) harr⟩
   | goto l => exact ⟨_, a₁, w₁, hq, .pass (x := .inLoop c) rfl (fun _ _ => .inl (by simp)) harr⟩
   | ret => exact ⟨_, a₁, w₁, hq, .pass (x := .inLoop c) rfl (fun _ _ => .inl (by simp)) harr⟩
   | panic ch => exact ⟨_, a₁, w₁, hq, .pass (x := .inLoop c) rfl (fun _ _ => .inl (by simp)) harr⟩
   | outgrown => exact ⟨_, a₁, w₁, hq, .pass (x := .inLoop c) rfl (fun _ _ => .inl (by simp)) harr⟩
 obtain ⟨e, a', w', hq, harr⟩ := key m a w ⟨E, L, ha, hi, h0⟩
 exact ⟨e, a', w', hq, .of_steps (.one step_loop) harr⟩
end
end Go.Sl
namespace Go.Sl
open Go.RowKit (Below)
def bP (P : Program) (t : TypeId) : Bool := match P.underlying t with | some (.struct _) => false | some (.array _ _) => false | some _ => (match P.info? t with | some i => Nat.beq i.size 1 | none => false) | none => false
def gf (P : Program) (t : TypeId) : Option Nat := match P.underlying t with | some (.struct _) => (P.info? t).map (·.size) | some (.array _ _) => (P.info? t).map (·.size) | _ => none
def cm (P : Program) (t : TypeId) : Option (List Value) := match P.info? t with | some i => (match i.zero with | some z => cond (Nat.beq z.cells.size i.size) (some z.cells.toList) none | none => none) | none => none
def a7 (P : Program) (s f : Nat) : Option Nat := match P.underlying s with
 | some (.struct fs) => (match fs[f]? with | some fd => (match P.info? fd.type with | some i => cond (Nat.beq i.size 0) none (some fd.offset) | none => none) | none => none)
 | _ => none
def sliceB (P : Program) (t : TypeId) : Option (TypeId × Nat × Nat) := match P.underlying t with
 | some (.slice e) => (match P.info? e with | some i => some (e, i.size, i.bytes) | none => none)
 | _ => none
def gq (P : Program) (t : TypeId) : Option (Nat × TypeId × Nat) := match P.underlying t with
 | some (.array n e) => (match P.info? e with | some i => some (n, e, i.size) | none => none)
 | _ => none
def jt (P : Program) (t : TypeId) : Bool := (P.underlying t).isSome
def ZU (P : Program) (t : TypeId) (k : IntKind) : Prop := P.underlying t = some (.int k)
def aB (P : Program) (f : FuncId) : Bool := match P.funcs[f]? with | some fn => fn.body.isSome && !(fn.name == "runtime.NumGoroutine") | none => false
theorem j8 {P : Program} {t : TypeId} (h : bP P t = true) (w : World) : (isAgg t).run P w = .ok false w := by
 unfold bP at h
 unfold isAgg
 split at h <;> simp_all [run_underlying]
theorem run_sizeOf {P : Program} {t : TypeId} {i : TypeInfo} (h : P.info? t = some i) (w : World) : (sizeOf t).run P w = .ok i.size w := by
 simp [sizeOf, typeInfo, h]
theorem zq {P : Program} {t : TypeId} (h : bP P t = true) : ∃ i, P.info? t = some i ∧ i.size = 1 := by
 unfold bP at h
 split at h <;> try simp at h
 split at h
 ·rename_i i hi; exact ⟨i, hi, Nat.eq_of_beq_eq_true h⟩
 ·simp at h
theorem kI {P : Program} {t n : Nat} (h : gf P t = some n) (w : World) : (isAgg t).run P w = .ok true w ∧ (sizeOf t).run P w = .ok n w := by
 unfold gf at h
 unfold isAgg
 split at h <;> try simp at h
 all_goals
  obtain ⟨i, hi, rfl⟩ := h
  exact ⟨by simp_all [run_underlying], run_sizeOf hi w⟩
theorem jv {P : Program} {t : Nat} {zs : List Value} (h : cm P t = some zs) : ∃ i z, P.info? t = some i ∧ i.zero = some z ∧ z.cells = zs.toArray ∧ i.size = zs.length := by
 unfold cm at h
 split at h <;> try simp at h
 rename_i i hi
 split at h <;> try simp at h
 rename_i z hz
 by_cases hs : Nat.beq z.cells.size i.size = true
 ·simp [hs] at h
  subst h
  exact ⟨i, z, hi, hz, by simp, by simpa using (Nat.eq_of_beq_eq_true hs).symm⟩
 ·simp [hs] at h
theorem Cg {P : Program} {s f o : Nat} (h : a7 P s f = some o) : ∃ fs fd i, P.underlying s = some (.struct fs) ∧ fs[f]? = some fd ∧ P.info? fd.type = some i ∧ i.size ≠ 0 ∧ fd.offset = o := by
 unfold a7 at h
 split at h <;> try simp at h
 rename_i fs hfs
 split at h <;> try simp at h
 rename_i fd hfd
 split at h <;> try simp at h
 rename_i i hi
 by_cases hz : Nat.beq i.size 0 = true
 ·simp [hz] at h
 ·simp [hz] at h
  refine ⟨fs, fd, i, hfs, hfd, hi, ?_, h⟩
  intro e
  rw [e] at hz
  exact hz rfl
theorem iH {P : Program} {t e sz bE : Nat} (h : sliceB P t = some (e, sz, bE)) : P.underlying t = some (.slice e) ∧ ∃ i, P.info? e = some i ∧ i.size = sz ∧ i.bytes = bE := by
 unfold sliceB at h
 split at h <;> try simp at h
 rename_i e' he
 split at h <;> try simp at h
 rename_i i hi
 obtain ⟨rfl, rfl, rfl⟩ := h
 exact ⟨he, i, hi, rfl, rfl⟩
theorem lJ {P : Program} {t n e sz : Nat} (h : gq P t = some (n, e, sz)) : P.underlying t = some (.array n e) ∧ ∃ i, P.info? e = some i ∧ i.size = sz := by
 unfold gq at h
 split at h <;> try simp at h
 rename_i n' e' he
 split at h <;> try simp at h
 rename_i i hi
 obtain ⟨rfl, rfl, rfl⟩ := h
 exact ⟨he, i, hi, rfl⟩
theorem fe {a b : Nat} (h : Nat.blt a b = true) : a < b := Nat.le_of_ble_eq_true h
theorem Addr.fa (b o n : Nat) : (⟨b, o, none⟩ : Addr).add n = ⟨b, o + n, none⟩ := by
 unfold Addr.add
 split
 ·rename_i h; simp [h]
 ·rfl
theorem eX {n : Int} (h1 : -9223372036854775808 ≤ n) (h2 : n ≤ 9223372036854775807) : IntKind.i64.wrap n = n := by rw [IntKind.wrap_i64]; omega
theorem rS {m n : Int} (h1 : 0 ≤ m) (h2 : 0 < n) (h3 : m ≤ 9223372036854775807) : IntKind.i64.wrap (m.tdiv n) = m / n := by
 rw [Int.tdiv_eq_ediv_of_nonneg h1]
 have h4 := Int.ediv_le_self n h1
 have h5 := Int.ediv_nonneg h1 (Int.le_of_lt h2)
 exact eX (by omega) (by omega)
theorem mX {m n : Int} (h1 : 0 ≤ m) : m.tmod n = m % n := Int.tmod_eq_emod_of_nonneg h1
inductive fR : List ab → ab → List ab → Prop
 | head {A : ab} {L : List ab} : fR (A :: L) A L
 | tail {A B : ab} {L F : List ab} : fR L A F → fR (B :: L) A (B :: F)
theorem fR.perm {L F : List ab} {A : ab} (h : fR L A F) : L.Perm (A :: F) := by
 induction h with
 | head => exact List.Perm.refl _
 | tail _ ih => exact (List.Perm.cons _ ih).trans (List.Perm.swap _ _ _)
inductive iQ : List ab → ab → ab → List ab → Prop
 | head {A A' : ab} {L : List ab} : iQ (A :: L) A A' (A' :: L)
 | tail {A A' B : ab} {L F : List ab} : iQ L A A' F → iQ (B :: L) A A' (B :: F)
theorem iQ.perm {L L' : List ab} {A A' : ab} (h : iQ L A A' L') : ∃ F, L.Perm (A :: F) ∧ (A' :: F).Perm L' := by
 induction h with
 | head => exact ⟨_, List.Perm.refl _, List.Perm.refl _⟩
 | @tail A A' B L F _ ih =>
  obtain ⟨G, h1, h2⟩ := ih
  exact ⟨B :: G, (List.Perm.cons _ h1).trans (List.Perm.swap _ _ _), (List.Perm.swap _ _ _).trans (List.Perm.cons _ h2)⟩
theorem Inv.mem {w0 w : World} {L : List ab} {A : ab} (hi : Inv w0 L w) (hm : A ∈ L) : ∃ F, Inv w0 (A :: F) w := by
 obtain ⟨X, Y, rfl⟩ := List.append_of_mem hm
 exact ⟨X ++ Y, hi.perm List.perm_middle⟩
section
variable {C : Ctx} {Q : QT} {E : Env} {L L' : List ab} {ops : Array Oper} {rest : List Oper} {d : Nat} {ty : TypeId} {pos : String} {aft : Array Edge} {op : Op} {v : Value}
theorem dR {id : Nat} {l : List Oper} (h : cy C l.toArray l Q E L) : Wp C (.region id l.toArray false) Q E L :=
 fun a w ha hi => wp_region_lit (h a w ha hi)
theorem df (h : Q .normal E L) : cy C ops [] Q E L := fun a w ha hi => wpList_nil ⟨E, L, ha, hi, h⟩
theorem ze (hp : L.Perm L') (h : cy C ops rest Q E L') : cy C ops rest Q E L := fun a w ha hi => h a w ha (hi.perm hp)
theorem Js {A : ab} {ι : Sort _} {K : ι → Prop} {B : ι → List ab} (hA : ∀ h, A C.w0 h → ∃ i, K i ∧ bU C.w0 (B i) h)
  (k : ∀ i, K i → cy C ops rest Q E (B i ++ L)) : cy C ops rest Q E (A :: L) := fun a w ha hi => let ⟨i, c, s⟩ := hi.vn hA; k i c a w ha s
def IY : Op → Value → Bool
 | .move _, _ => true
 | .assign _, _ => true
 | .pick _ _ _, _ => true
 | .nilCheck _, _ => true
 | .load _ _, _ => true
 | .binOp _ _ _ _ _, .bool _ => true
 | .binOp _ _ _ _ _, .int _ _ => true
 | .unOp _ _ _, _ => true
 | .convert _ _ _, .int _ _ => true
 | .fieldAddr _ _ _, _ => true
 | .field _ _ _, _ => true
 | .indexAddr _ _ _, _ => true
 | .index _ _ _, _ => true
 | .extract _ _, _ => true
 | .slice _ _ _ _ _, .slice _ _ _ => true
 | .build _ _, _ => true
 | .call ⟨.builtin .len, _, _⟩, .int _ _ => true
 | .call ⟨.builtin .cap, _, _⟩, .int _ _ => true
 | .call ⟨.builtin .min, _, _⟩, .int _ _ => true
 | .call ⟨.builtin .max, _, _⟩, .int _ _ => true
 | _, _ => false
def bB (C : Ctx) (op : Op) (ty : TypeId) (E : Env) (L : List ab) (v : Value) (L' : List ab) : Prop :=
 ∀ (d : Option Nat) (pos : String) (aft : Array Edge) (g : Option (Nat × Bool)) a w, ft C E a → Inv C.w0 L w → ∃ w', ((execOp a.eval ⟨d, op, ty, pos, aft, g⟩).run C.P w = .ok (.value v) w' ∨ (execOp a.eval ⟨d, op, ty, pos, aft, g⟩).run C.P w = .ok .skip w' ∧ v = undef) ∧ Inv C.w0 L' w' ∧ (IY op v = true → (execOp a.eval ⟨d, op, ty, pos, aft, g⟩).run C.P w = .ok (.value v) w)
def jM (C : Ctx) (op : Op) (ty : TypeId) (E : Env) (L : List ab) (R : Value → List ab → Prop) : Prop :=
 ∀ (d : Option Nat) (pos : String) (aft : Array Edge) (g : Option (Nat × Bool)) a w (K : Act → World → Prop) (Q : Exit → Act → World → Prop), ft C E a → Inv C.w0 L w →
  (∀ v L' w', R v L' → Inv C.w0 L' w' → K (a.put d v) w') → (⟨d, op, ty, pos, aft, g⟩ : Oper).wp C.P a w K Q
theorem bB.x (h : bB C op ty E L v L') : jM C op ty E L (fun v' M => v' = v ∧ M = L') := by
 intro d pos aft g a w K Qx ha hi hK
 obtain ⟨w', hr, hi', _⟩ := h d pos aft g a w ha hi
 unfold Oper.wp
 rcases hr with hr | ⟨hr, e⟩
 ·rw [hr]; exact hK v L' w' ⟨rfl, rfl⟩ hi'
 ·rw [hr]; subst e; exact hK undef L' w' ⟨rfl, rfl⟩ hi'
theorem tQ (h : bB C op ty E L v L') (hd : Nat.blt d C.n = true) (k : cy C ops rest Q ((d, v) :: E) L') : cy C ops (⟨some d, op, ty, pos, aft, none⟩ :: rest) Q E L := by
 intro a w ha hi
 refine wpList_plain rfl (fun K hK => ?_)
 exact h.x _ _ _ _ a w K _ ha hi (fun v' M w' ⟨e1, e2⟩ hi' => by subst e1; subst e2; exact hK _ _ (k _ _ (ha.put (fe hd) _) hi'))
theorem cu (h : bB C op ty E L v L') (k : cy C ops rest Q E L') : cy C ops (⟨none, op, ty, pos, aft, none⟩ :: rest) Q E L := by
 intro a w ha hi
 refine wpList_plain rfl (fun K hK => ?_)
 exact h.x _ _ _ _ a w K _ ha hi (fun v' M w' ⟨e1, e2⟩ hi' => by subst e1; subst e2; exact hK _ _ (k _ _ ha hi'))
theorem n7 {R : Value → List ab → Prop} (h : jM C op ty E L R) (hd : Nat.blt d C.n = true) (k : ∀ v L', R v L' → cy C ops rest Q ((d, v) :: E) L') : cy C ops (⟨some d, op, ty, pos, aft, none⟩ :: rest) Q E L := by
 intro a w ha hi
 refine wpList_plain rfl (fun K hK => ?_)
 exact h _ _ _ _ a w K _ ha hi (fun v M w' hR hi' => hK _ _ (k v M hR _ _ (ha.put (fe hd) _) hi'))
def iT (ops : Array Oper) (E : Env) (j : Nat) : Option Bool :=
 match ops[j]? with
 | some o => (match o.dst with
  | some t => (match E.get t with | some (.bool b) => some b | _ => none)
  | none => none)
 | none => none
theorem jF {a : Act} {j : Nat} {b want : Bool} {o : Oper} (ha : ft C E a) (h : iT ops E j = some b) (hg : o.guard = some (j, want)) : Region.wanted o (yielded ops a.tmps) = (b == want) := by
 unfold iT at h
 split at h <;> try simp at h
 rename_i oj hj
 split at h <;> try simp at h
 rename_i t ht
 split at h <;> try simp at h
 rename_i b' hb
 subst h
 have := ha.get t _ hb
 simp [Region.wanted, hg, yielded, hj, ht, this]
theorem cL {dst : Option Nat} {j : Nat} {want : Bool} (hg : iT ops E j = some want) (h : cy C ops (⟨dst, op, ty, pos, aft, none⟩ :: rest) Q E L) : cy C ops (⟨dst, op, ty, pos, aft, some (j, want)⟩ :: rest) Q E L := by
 intro a w ha hi
 have h1 := h a w ha hi
 have hw := jF (o := ⟨dst, op, ty, pos, aft, some (j, want)⟩) ha hg rfl
 unfold wpList at h1 ⊢
 rw [if_pos (by simp [Region.wanted])] at h1
 rw [if_pos (by rw [hw]; simp)]
 exact h1
theorem wP {j : Nat} {want b : Bool} (hg : iT ops E j = some b) (hb : (b == want) = false) (hd : Nat.blt d C.n = true) (h : cy C ops rest Q ((d, undef) :: E) L) : cy C ops (⟨some d, op, ty, pos, aft, some (j, want)⟩ :: rest) Q E L := by
 intro a w ha hi
 have hw := jF (o := ⟨some d, op, ty, pos, aft, some (j, want)⟩) ha hg rfl
 unfold wpList
 rw [if_neg (by rw [hw, hb]; simp)]
 exact h _ _ (ha.put (fe hd) _) hi
theorem yn {b : Bool} (t : Nat) (ht : E.get t = some (.bool b)) (hT : b = true → cy C ops rest Q ((t, .bool true) :: E) L) (hF : b = false → cy C ops rest Q ((t, .bool false) :: E) L) : cy C ops rest Q E L := by
 have key : ∀ c : Bool, b = c → Le ((t, .bool c) :: E) E := fun c e => by subst e; exact Le.cons ht (Le.refl _)
 intro a w ha hi
 cases b with
 | true => exact hT rfl a w (ha.le (key _ rfl)) hi
 | false => exact hF rfl a w (ha.le (key _ rfl)) hi
theorem kh {p : Prop} [Decidable p] (t : Nat) (ht : E.get t = some (.bool (decide p))) (hT : p → cy C ops rest Q ((t, .bool true) :: E) L) (hF : ¬ p → cy C ops rest Q ((t, .bool false) :: E) L) : cy C ops rest Q E L :=
 yn t ht (fun e => hT (of_decide_eq_true e)) (fun e => hF (of_decide_eq_false e))
theorem cF (hr : ∀ (d : Option Nat) (pos : String) (aft : Array Edge) (g : Option (Nat × Bool)) a w, ft C E a → (execOp a.eval ⟨d, op, ty, pos, aft, g⟩).run C.P w = .ok (.value v) w) : bB C op ty E L v L :=
 fun d pos aft g a w ha hi => ⟨w, .inl (hr d pos aft g a w ha), hi, fun _ => hr d pos aft g a w ha⟩
theorem jm {x : Operand} (h : an E x = some v) : bB C (.move x) ty E L v L := cF fun d pos aft g a w ha => by simp [execOp, ha.eval h]
theorem iO {x : Operand} (h : an E x = some v) : bB C (.assign x) ty E L v L := cF fun d pos aft g a w ha => by simp [execOp, ha.eval h]
theorem ni {c x y : Operand} (hc : an E c = some (.bool true)) (h : an E x = some v) : bB C (.pick c x y) ty E L v L := cF fun d pos aft g a w ha => by simp [execOp, ha.eval h, ha.eval hc, asBool]
theorem um {c x y : Operand} (hc : an E c = some (.bool false)) (h : an E y = some v) : bB C (.pick c x y) ty E L v L := cF fun d pos aft g a w ha => by simp [execOp, ha.eval h, ha.eval hc, asBool]
theorem BV {x : Operand} {p : Addr} (h : an E x = some (.pointer (some p))) : bB C (.nilCheck x) ty E L (.pointer (some p)) L := cF fun d pos aft g a w ha => by simp [execOp, ha.eval h]
theorem lG {x : Operand} {t : TypeId} {b : Bool} (h : an E x = some (.bool b)) : bB C (.unOp .not t x) ty E L (.bool (!b)) L := cF fun d pos aft g a w ha => by simp [execOp, ha.eval h, Op.unary]
theorem Da {x : Operand} {t : TypeId} {p : Prop} [Decidable p] (h : an E x = some (.bool (decide p))) : bB C (.unOp .not t x) ty E L (.bool (decide (¬ p))) L := cF fun d pos aft g a w ha => by simp [execOp, ha.eval h, Op.unary]
theorem dQ {x : Operand} {vs : Array Value} {i : Nat} (h : an E x = some (.tuple vs)) (hv : vs[i]? = some v) : bB C (.extract x i) ty E L v L := cF fun d pos aft g a w ha => by simp [execOp, ha.eval h, Instr.extract, hv]
section ints
variable {x y : Operand} {t t' : TypeId} {k : IntKind} {m n r : Int}
theorem iF {o : BinOp} {t' : TypeId} (d : Option Nat) (pos : String) (aft : Array Edge) (g : Option (Nat × Bool)) {a : Act} {w : World} {u1 u2 : Value} (hx : a.eval x = u1) (hy : a.eval y = u2) (hg : (eqGuard o t x y u1 u2).run C.P w = .ok () w) :
  (execOp a.eval ⟨d, .binOp o t x y t', ty, pos, aft, g⟩).run C.P w = ((binOp o t u1 u2).run C.P w).andThen fun v w => .ok (.value v) w := by
 simp [execOp, hx, hy, hg]
theorem zl {o : BinOp} (w : World) : (eqGuard o t x y (.int k m) (.int k n)).run C.P w = .ok () w := by
 unfold eqGuard
 cases o <;> simp
theorem jd {o : BinOp} (hx : an E x = some (.int k m)) (hy : an E y = some (.int k n)) (hr : ∀ w, (binOp o t (.int k m) (.int k n)).run C.P w = .ok v w) : bB C (.binOp o t x y t') ty E L v L :=
 cF fun d pos aft g a w ha => by rw [iF d pos aft g (ha.eval hx) (ha.eval hy) (zl w), hr]; rfl
theorem eb (hx : an E x = some (.int k m)) (hy : an E y = some (.int k n)) (e : k.wrap (m + n) = r) : bB C (.binOp .add t x y t') ty E L (.int k r) L := jd hx hy fun w => by simp [binOp, Op.intArith, e]
theorem jX (hx : an E x = some (.int k m)) (hy : an E y = some (.int k n)) (e : k.wrap (m - n) = r) : bB C (.binOp .sub t x y t') ty E L (.int k r) L := jd hx hy fun w => by simp [binOp, Op.intArith, e]
theorem fP (hx : an E x = some (.int k m)) (hy : an E y = some (.int k n)) (e : k.wrap (m * n) = r) : bB C (.binOp .mul t x y t') ty E L (.int k r) L := jd hx hy fun w => by simp [binOp, Op.intArith, e]
theorem ji (hx : an E x = some (.int k m)) (hy : an E y = some (.int k n)) (h0 : n ≠ 0) (e : k.wrap (m.tdiv n) = r) : bB C (.binOp .quo t x y t') ty E L (.int k r) L := jd hx hy fun w => by simp [binOp, Op.intDiv, h0, e]
theorem kX (hx : an E x = some (.int k m)) (hy : an E y = some (.int k n)) (h0 : n ≠ 0) (e : m.tmod n = r) : bB C (.binOp .rem t x y t') ty E L (.int k r) L := jd hx hy fun w => by simp [binOp, Op.intDiv, h0, e]
theorem jG (hx : an E x = some (.int k m)) (hy : an E y = some (.int k n)) (e : k.wrap ((BitVec.ofInt k.bits m &&& BitVec.ofInt k.bits n).toNat : Int) = r) : bB C (.binOp .and t x y t') ty E L (.int k r) L := jd hx hy fun w => by rw [← e]; simp [binOp, Op.intBits]
theorem ow (hx : an E x = some (.int k m)) (hy : an E y = some (.int k n)) (e : k.wrap ((BitVec.ofInt k.bits m ||| BitVec.ofInt k.bits n).toNat : Int) = r) : bB C (.binOp .or t x y t') ty E L (.int k r) L := jd hx hy fun w => by rw [← e]; simp [binOp, Op.intBits]
theorem qC (hx : an E x = some (.int k m)) (hy : an E y = some (.int k n)) (e : k.wrap ((BitVec.ofInt k.bits m ^^^ BitVec.ofInt k.bits n).toNat : Int) = r) : bB C (.binOp .xor t x y t') ty E L (.int k r) L := jd hx hy fun w => by rw [← e]; simp [binOp, Op.intBits]
theorem gS {k' : IntKind} (hx : an E x = some (.int k m)) (hy : an E y = some (.int k' n)) (h0 : 0 ≤ n) (e : k.wrap (m * 2 ^ (min n.toNat k.bits)) = r) : bB C (.binOp .shl t x y t') ty E L (.int k r) L :=
 cF fun d pos aft g a w ha => by
  rw [iF d pos aft g (ha.eval hx) (ha.eval hy) (by simp [eqGuard])]
  simp [binOp, Op.shift, Int.not_lt.2 h0, ← e]
theorem dP {k' : IntKind} (hx : an E x = some (.int k m)) (hy : an E y = some (.int k' n)) (h0 : 0 ≤ n) (e : m.fdiv (2 ^ (min n.toNat k.bits)) = r) : bB C (.binOp .shr t x y t') ty E L (.int k r) L :=
 cF fun d pos aft g a w ha => by
  rw [iF d pos aft g (ha.eval hx) (ha.eval hy) (by simp [eqGuard])]
  simp [binOp, Op.shift, Int.not_lt.2 h0, ← e]
theorem dW (hx : an E x = some (.int k m)) (hy : an E y = some (.int k n)) : bB C (.binOp .lss t x y t') ty E L (.bool (decide (m < n))) L := jd hx hy fun w => by simp [binOp, Op.intCmp]
theorem eO (hx : an E x = some (.int k m)) (hy : an E y = some (.int k n)) : bB C (.binOp .leq t x y t') ty E L (.bool (decide (m ≤ n))) L := jd hx hy fun w => by simp [binOp, Op.intCmp]
theorem ed (hx : an E x = some (.int k m)) (hy : an E y = some (.int k n)) : bB C (.binOp .gtr t x y t') ty E L (.bool (decide (n < m))) L := jd hx hy fun w => by simp [binOp, Op.intCmp]
theorem Cz (hx : an E x = some (.int k m)) (hy : an E y = some (.int k n)) : bB C (.binOp .geq t x y t') ty E L (.bool (decide (n ≤ m))) L := jd hx hy fun w => by simp [binOp, Op.intCmp]
theorem da (hx : an E x = some (.int k m)) (hy : an E y = some (.int k n)) : bB C (.binOp .eql t x y t') ty E L (.bool (decide (m = n))) L := jd hx hy fun w => by
 simp [binOp, Op.intCmp]; rw [Bool.eq_iff_iff]; simp
theorem cE (hx : an E x = some (.int k m)) (hy : an E y = some (.int k n)) : bB C (.binOp .neq t x y t') ty E L (.bool (decide (m ≠ n))) L := jd hx hy fun w => by
 simp [binOp, Op.intCmp]; rw [Bool.eq_iff_iff]; simp
theorem cW {src dst : TypeId} {k' : IntKind} (hs : jt C.P src = true) (hd : C.P.underlying dst = some (.int k')) (hx : an E x = some (.int k m)) (e : k'.wrap m = r) : bB C (.convert src dst x) ty E L (.int k' r) L :=
 cF fun d pos aft g a w ha => by
  simp only [execOp, ha.eval hx]
  have := run_convert_int (P := C.P) (w := w) src dst k m
  unfold jt at hs
  obtain ⟨ds, hds⟩ := Option.isSome_iff_exists.1 hs
  simp [convert, run_underlying hds, run_underlying hd, Conv.intToInt, e]
end ints
theorem oL {t e : TypeId} {p : Option Addr} (ht : C.P.underlying t = some (.pointer e)) (d : Nat) (w : World) : (Op.equalIn (d + 1) t (.pointer p) (.pointer none)).run C.P w = .ok p.isNone w := by
 cases p <;> simp [Op.equalIn, run_underlying ht]
theorem uS {x y : Operand} {t t' e : TypeId} {p : Option Addr} (ht : C.P.underlying t = some (.pointer e)) (hx : an E x = some (.pointer p)) (hy : an E y = some (.pointer none)) : bB C (.binOp .eql t x y t') ty E L (.bool p.isNone) L :=
 cF fun d pos aft g a w ha => by
  rw [iF d pos aft g (ha.eval hx) (ha.eval hy) (by simp [eqGuard])]
  have h := oL ht (p := p) 9999 w
  simp only [binOp, Op.equal, Op.maxDepth, Sem.run_bind, h, Result.andThen_ok, Sem.run_pure]
theorem KQ {x y : Operand} {t t' e : TypeId} {p : Option Addr} (ht : C.P.underlying t = some (.pointer e)) (hx : an E x = some (.pointer p)) (hy : an E y = some (.pointer none)) : bB C (.binOp .neq t x y t') ty E L (.bool (!p.isNone)) L :=
 cF fun d pos aft g a w ha => by
  rw [iF d pos aft g (ha.eval hx) (ha.eval hy) (by simp [eqGuard])]
  have h := oL ht (p := p) 9999 w
  simp only [binOp, Op.equal, Op.maxDepth, Sem.run_bind, h, Result.andThen_ok, Sem.run_pure]
theorem bp {x : Operand} {s f o b p : Nat} (ht : a7 C.P s f = some o) (h : an E x = some (.pointer (some ⟨b, p, none⟩))) : bB C (.fieldAddr s x f) ty E L (.pointer (some ⟨b, p + o, none⟩)) L :=
 cF fun d pos aft g a w ha => by
  obtain ⟨fs, fd, i, h1, h2, h3, h4, rfl⟩ := Cg ht
  simp [execOp, ha.eval h, Instr.fieldAt, run_underlying h1, h2, Instr.sureAddr, fieldPlace, run_sizeOf h3, h4, Addr.fa]
theorem Ki {x ix : Operand} {t e sz bE b p len cap : Nat} {k : IntKind} {i : Int} (j : Nat) (hj : i = (j : Int)) (ht : sliceB C.P t = some (e, sz, bE)) (h : an E x = some (.slice (some ⟨b, p, none⟩) len cap)) (hi : an E ix = some (.int k i)) (hlt : j < len) : bB C (.indexAddr t x ix) ty E L (.pointer (some ⟨b, p + j * sz, none⟩)) L :=
 cF fun d pos aft g a w ha => by
  obtain ⟨h1, i', h2, h3, h4⟩ := iH ht
  subst hj
  have : (j : Int) < (len : Int) := by omega
  simp [execOp, ha.eval h, ha.eval hi, Instr.indexAt, asIntOf, run_underlying h1, run_sizeOf h2, h3, hlt, Addr.fa]
theorem dh {x ix : Operand} {t e sz n b p : Nat} {k : IntKind} {i : Int} (j : Nat) (hj : i = (j : Int)) (ht : gq C.P t = some (n, e, sz)) (h : an E x = some (.pointer (some ⟨b, p, none⟩))) (hi : an E ix = some (.int k i)) (hlt : j < n) : bB C (.indexAddr t x ix) ty E L (.pointer (some ⟨b, p + j * sz, none⟩)) L :=
 cF fun d pos aft g a w ha => by
  obtain ⟨h1, i', h2, h3⟩ := lJ ht
  subst hj
  simp [execOp, ha.eval h, ha.eval hi, Instr.indexAt, asIntOf, run_underlying h1, run_sizeOf h2, h3, hlt, Addr.fa, Instr.sureAddr]
theorem vk {t : TypeId} {p : Addr} {w : World} (hs : bP C.P t = true) (h : w.cell? p = some v) : (loadVar t p).run C.P w = .ok v w := by
 simp [loadVar, j8 hs, h]
theorem Aa {x : Operand} {t : TypeId} {p : Addr} (hs : bP C.P t = true) (hx : an E x = some (.pointer (some p))) (hw : ∀ w, Inv C.w0 L w → w.cell? p = some v) : bB C (.load t x) ty E L v L :=
 fun d pos aft g a w ha hi => ⟨w, .inl (by simp [execOp, ha.eval hx, Instr.loadAt, Instr.sureAddr, vk hs (hw w hi)]), hi, fun _ => by simp [execOp, ha.eval hx, Instr.loadAt, Instr.sureAddr, vk hs (hw w hi)]⟩
theorem az {x : Operand} {t b o T : Nat} {cs : List Value} (hs : bP C.P t = true) (hx : an E x = some (.pointer (some ⟨b, o, none⟩))) (hm : ai b T cs ∈ L) (hv : cs[o]? = some v) : bB C (.load t x) ty E L v L :=
 Aa hs hx fun w hi => by obtain ⟨F, hF⟩ := hi.mem hm; rw [hF.ie, hv]
theorem sZ {x : Operand} {t n b o : Nat} {vs : List Value} (hs : gf C.P t = some n) (hx : an E x = some (.pointer (some ⟨b, o, none⟩))) (hn : vs.length = n) (hw : ∀ w, Inv C.w0 L w → ∀ j v, vs[j]? = some v → w.cell? ⟨b, o + j, none⟩ = some v) : bB C (.load t x) ty E L (.agg vs.toArray) L :=
 fun d pos aft g a w ha hi => by
  have hr : (execOp a.eval ⟨d, .load t x, ty, pos, aft, g⟩).run C.P w = .ok (.value (.agg vs.toArray)) w := by
   obtain ⟨h1, h2⟩ := kI hs w
   have := run_loadCells_list (P := C.P) w ⟨b, o, none⟩ vs (fun j v hj => by rw [Addr.fa]; exact hw w hi j v hj)
   rw [hn] at this
   simp [execOp, ha.eval hx, Instr.loadAt, Instr.sureAddr, loadVar, h1, h2, this]
  exact ⟨w, .inl hr, hi, fun _ => hr⟩
theorem dH {x : Operand} {t n b o T : Nat} {cs vs : List Value} (hs : gf C.P t = some n) (hx : an E x = some (.pointer (some ⟨b, o, none⟩))) (hm : ai b T cs ∈ L) (hn : vs.length = n) (hv : (cs.drop o).take n = vs) : bB C (.load t x) ty E L (.agg vs.toArray) L :=
 sZ hs hx hn fun w hi j v hj => by
  obtain ⟨F, hF⟩ := hi.mem hm
  rw [hF.ie, ← hj, ← hv]
  have : j < n := by
   have := (List.getElem?_eq_some_iff.1 hj).1
   omega
  simp [List.getElem?_take, this, List.getElem?_drop]
theorem dz {x y : Operand} {t b o T : Nat} {cs cs' : List Value} {u : Value} (hs : bP C.P t = true) (hx : an E x = some (.pointer (some ⟨b, o, none⟩))) (hy : an E y = some u) (h1 : u.oneCell' = true)
  (hr : iQ L (ai b T cs) (ai b T cs') L') (ho : o < cs.length) (hc : cs.set o u = cs') : bB C (.store t x y) ty E L undef L' := by
 intro d pos aft g a w ha hi
 obtain ⟨F, p1, p2⟩ := hr.perm
 have hi1 := hi.perm p1
 have hcell : w.cell? ⟨b, o, none⟩ = some cs[o] := by rw [hi1.ie]; simp [ho]
 have hfr := hi1.tx o ho
 have hcs : u.cells = #[u] := by cases u <;> first | rfl | (simp [Value.oneCell'] at h1)
 obtain ⟨i, hinfo, hsz⟩ := zq hs
 refine ⟨w.setCell ⟨b, o, none⟩ u, .inr ⟨?_, rfl⟩, ?_, fun h => by cases h⟩
 ·have hst := run_store C.P w ⟨b, o, none⟩ u .plain h1
  simp [hcell, hfr] at hst
  simp [execOp, ha.eval hx, ha.eval hy, Instr.storeAt, Instr.sureAddr, storeVar, hcs, run_sizeOf hinfo, hsz, storeCells, Addr.fa, hst]
 ·rw [← hc] at p2
  exact (hi1.setCell o u).perm p2
theorem qG {t : TypeId} {zs : List Value} (hz : cm C.P t = some zs) : jM C (.alloc t) ty E L (fun v L' => ∃ b, v = .pointer (some ⟨b, 0, none⟩) ∧ L' = ai b t zs :: L) := by
 intro d pos aft g a w K Qx ha hi hK
 obtain ⟨i, z, h1, h2, h3, h4⟩ := jv hz
 have hr : (execOp a.eval ⟨d, .alloc t, ty, pos, aft, g⟩).run C.P w = .ok (.value (.pointer (some ⟨w.heap.size, 0, none⟩))) (w.alloc (.cells zs.toArray t)) := by
  simp [execOp, Instr.alloc, zeroValue, typeInfo, h1, h2, newVar, newRow, h3]
 unfold Oper.wp
 rw [hr]
 exact hK _ _ _ ⟨_, rfl, rfl⟩ (hi.alloc t zs)
theorem TJ {t : TypeId} {x : Operand} {u : Value} (hx : an E x = some u) : jM C (.box t x) ty E L (fun v L' => ∃ b, v = .pointer (some ⟨b, 0, none⟩) ∧ L' = ai b t u.cells.toList :: L) := by
 intro d pos aft g a w K Qx ha hi hK
 have hr : (execOp a.eval ⟨d, .box t x, ty, pos, aft, g⟩).run C.P w = .ok (.value (.pointer (some ⟨w.heap.size, 0, none⟩))) (w.alloc (.cells u.cells.toList.toArray t)) := by
  simp [execOp, ha.eval hx, Instr.box, newVar, newRow]
 unfold Oper.wp
 rw [hr]
 exact hK _ _ _ ⟨_, rfl, rfl⟩ (hi.alloc t _)
theorem c4 {t : TypeId} {zs : List Value} (hz : cm C.P t = some zs) (hd : Nat.blt d C.n = true) (k : ∀ b, cy C ops rest Q ((d, .pointer (some ⟨b, 0, none⟩)) :: E) (ai b t zs :: L)) : cy C ops (⟨some d, .alloc t, ty, pos, aft, none⟩ :: rest) Q E L :=
 n7 (qG hz) hd fun v L' ⟨b, e1, e2⟩ => by subst e1; subst e2; exact k b
theorem iL {t : TypeId} {x : Operand} {u : Value} {cs : List Value} (hx : an E x = some u) (hc : u.cells.toList = cs) (hd : Nat.blt d C.n = true) (k : ∀ b, cy C ops rest Q ((d, .pointer (some ⟨b, 0, none⟩)) :: E) (ai b t cs :: L)) : cy C ops (⟨some d, .box t x, ty, pos, aft, none⟩ :: rest) Q E L :=
 n7 (TJ hx) hd fun v L' ⟨b, e1, e2⟩ => by subst e1; subst e2; subst hc; exact k b
theorem iE {w0 : World} {b T : Nat} : ∀ (us : List Value) (o i : Nat) (cs : List Value) (F : List ab) (w : World), (∀ u ∈ us, u.oneCell' = true) → o + i + us.length ≤ cs.length → Inv w0 (ai b T cs :: F) w →
  ∃ w', (storeCells ⟨b, o, none⟩ us i).run C.P w = .ok () w' ∧ Inv w0 (ai b T (cs.take (o + i) ++ us ++ cs.drop (o + i + us.length)) :: F) w'
 | [], o, i, cs, F, w, _, h, hi => ⟨w, rfl, by simpa using hi⟩
 | u :: us, o, i, cs, F, w, h1, h, hi => by
  simp only [List.length_cons] at h
  have hlt : o + i < cs.length := by omega
  have hcell : w.cell? ⟨b, o + i, none⟩ = some cs[o + i] := by rw [hi.ie]; simp [hlt]
  have hfr := hi.tx (o + i) hlt
  have hst := run_store C.P w ⟨b, o + i, none⟩ u .plain (h1 u (by simp))
  simp [hcell, hfr] at hst
  obtain ⟨w', hr, hi'⟩ := iE us o (i + 1) (cs.set (o + i) u) F _ (fun x hx => h1 x (by simp [hx])) (by simp; omega) (hi.setCell (o + i) u)
  refine ⟨w', by simp [storeCells, Addr.fa, hst, hr], ?_⟩
  have e : (cs.set (o + i) u).take (o + (i + 1)) ++ us ++ (cs.set (o + i) u).drop (o + (i + 1) + us.length) = cs.take (o + i) ++ (u :: us) ++ cs.drop (o + i + (u :: us).length) := by
   have e1 : (cs.set (o + i) u).take (o + (i + 1)) = cs.take (o + i) ++ [u] := by
    apply List.ext_getElem?
    intro j
    simp only [List.getElem?_take, List.getElem?_set, List.getElem?_append, List.length_take]
    by_cases hj : j < o + i
    ·have : j < o + (i + 1) := by omega
     have h3 : ¬ (o + i = j) := by omega
     have h4 : j < min (o + i) cs.length := by omega
     simp [hj, this, h3, h4]
    ·by_cases hj2 : j = o + i
     ·subst hj2
      have : o + i < o + (i + 1) := by omega
      have h4 : ¬ (o + i < min (o + i) cs.length) := by omega
      have h5 : o + i - min (o + i) cs.length = 0 := by omega
      simp [this, hlt, h4, h5]
     ·have : ¬ j < o + (i + 1) := by omega
      have h4 : ¬ (j < min (o + i) cs.length) := by omega
      have h5 : ¬ (j - min (o + i) cs.length = 0) := by omega
      simp [this, h4, List.getElem?_cons, h5]
   have e2 : (cs.set (o + i) u).drop (o + (i + 1) + us.length) = cs.drop (o + i + (u :: us).length) := by
    rw [List.drop_set_of_lt (by omega)]
    congr 1
    simp; omega
   rw [e1, e2]
   simp
  rw [← e]
  exact hi'
theorem bd {x y : Operand} {t b o T n : Nat} {cs cs' us : List Value} (hs : gf C.P t = some n) (hx : an E x = some (.pointer (some ⟨b, o, none⟩))) (hy : an E y = some (.agg us.toArray)) (h1 : us.all Value.oneCell' = true) (hn : us.length = n)
  (hr : iQ L (ai b T cs) (ai b T cs') L') (ho : o + n ≤ cs.length) (hc : cs.take o ++ us ++ cs.drop (o + n) = cs') : bB C (.store t x y) ty E L undef L' := by
 intro d pos aft g a w ha hi
 obtain ⟨F, p1, p2⟩ := hr.perm
 have hi1 := hi.perm p1
 obtain ⟨h2, h3⟩ := kI hs w
 obtain ⟨w', hst, hi'⟩ := iE (C := C) us o 0 cs F w (fun u hu => by simpa using List.all_eq_true.1 h1 u hu) (by omega) hi1
 refine ⟨w', .inr ⟨?_, rfl⟩, ?_, fun h => by cases h⟩
 ·simp [execOp, ha.eval hx, ha.eval hy, Instr.storeAt, Instr.sureAddr, storeVar, Value.cells, h3, hn, hst]
 ·simp only [Nat.add_zero, hn, hc] at hi'
  exact hi'.perm p2
end
end Go.Sl
namespace Go.Sl
open Go.RowKit (Below)
def aC (P : Program) (f : FuncId) (args : List Value) (Pre : List ab) (Post : Ending → List ab → Prop) : Prop :=
 ∀ w0 F w, Inv w0 (Pre ++ F) w → Calls P f args.toArray w fun e w' => ∃ G, Inv w0 (G ++ F) w' ∧ Post e G
def aG (R : Value → List ab → Prop) : Ending → List ab → Prop := fun e G => ∃ v, e = .returned v ∧ R v G
theorem aC.mono {P : Program} {f : FuncId} {args : List Value} {Pre : List ab} {Post Post' : Ending → List ab → Prop} (h : aC P f args Pre Post) (hp : ∀ e G, Post e G → Post' e G) : aC P f args Pre Post' :=
 fun w0 F w hi => (h w0 F w hi).mono fun e w' ⟨G, h1, h2⟩ => ⟨G, h1, hp e G h2⟩
theorem aC.frame {P : Program} {f : FuncId} {args : List Value} {Pre : List ab} {R : Value → List ab → Prop} (h : aC P f args Pre (aG R)) (M : List ab) : aC P f args (Pre ++ M) (aG fun v G => ∃ G', R v G' ∧ G = G' ++ M) :=
 fun w0 F w hi => (h w0 (M ++ F) w (by rw [← List.append_assoc]; exact hi)).mono fun e w' ⟨G, h1, v, e1, h2⟩ => ⟨G ++ M, by rw [List.append_assoc]; exact h1, v, e1, G, h2, rfl⟩
def gG (E : Env) : List Operand → Option (List Value)
 | [] => some []
 | x :: xs => match an E x with | some v => (match gG E xs with | some vs => some (v :: vs) | none => none) | none => none
theorem ft.gG {C : Ctx} {E : Env} {a : Act} (h : ft C E a) : ∀ {xs : List Operand} {vs : List Value}, gG E xs = some vs → xs.toArray.map a.eval = vs.toArray
 | [], vs, e => by simp only [Sl.gG] at e; cases e; simp
 | x :: xs, vs, e => by
  simp only [Sl.gG] at e
  split at e <;> try simp at e
  rename_i v hv
  split at e <;> try simp at e
  rename_i us hus
  subst e
  have := ft.gG h hus
  simp at this ⊢
  exact ⟨h.eval hv, this⟩
inductive eE : List ab → List ab → List ab → Prop
 | nil {L : List ab} : eE L [] L
 | cons {L M F Pre : List ab} {A : ab} : fR L A M → eE M Pre F → eE L (A :: Pre) F
theorem eE.perm {L Pre F : List ab} (h : eE L Pre F) : L.Perm (Pre ++ F) := by
 induction h with
 | nil => exact List.Perm.refl _
 | cons h _ ih => exact h.perm.trans (List.Perm.cons _ ih)
theorem fL {P : Program} {f : FuncId} (hb : aB P f = true) (vs : Array Value) (w : World) : (callFunc f vs).run P w = .ok (.enter f vs) w := by
 unfold aB at hb
 split at hb <;> try simp at hb
 rename_i fn hfn
 obtain ⟨h1, h2⟩ := hb
 have h3 : fn.body ≠ none := by intro e; rw [e] at h1; cases h1
 simp [callFunc, hfn, h2, h3]
section
variable {C : Ctx} {Q : QT} {E : Env} {L L' : List ab} {ops : Array Oper} {rest : List Oper} {d : Nat} {ty : TypeId} {pos : String} {aft : Array Edge} {op : Op} {v : Value}
theorem Fp {f : FuncId} {args : List Operand} {tys : Array TypeId} {vs : List Value} {Pre F : List ab} {R : Value → List ab → Prop} (hS : aC C.P f vs Pre (aG R)) (hb : aB C.P f = true) (hE : gG E args = some vs) (hL : eE L Pre F) :
  jM C (.call ⟨.value (.func f), args.toArray, tys⟩) ty E L (fun v L' => ∃ G, R v G ∧ L' = G ++ F) := by
 intro d pos aft g a w K Qx ha hi hK
 have hargs := ha.gG hE
 have hr : (execOp a.eval ⟨d, .call ⟨.value (.func f), args.toArray, tys⟩, ty, pos, aft, g⟩).run C.P w = .ok (.enter f vs.toArray) w := by
  simp only [execOp, resolve, hargs, Deferred.ofValue, Act.eval, invoke, Sem.run_bind, Sem.run_pure, Result.andThen_ok, Array.append_empty, Array.empty_append, fL hb]
 unfold Oper.wp
 rw [hr]
 refine (hS C.w0 F w (hi.perm hL.perm)).mono ?_
 rintro e w' ⟨G, h1, v, rfl, h2⟩
 exact hK v (G ++ F) w' ⟨G, h2, rfl⟩ h1
theorem aj {f : FuncId} {args : List Operand} {tys : Array TypeId} {vs : List Value} {Pre F : List ab} {R : Value → List ab → Prop} (hS : aC C.P f vs Pre (aG R)) (hb : aB C.P f = true) (hE : gG E args = some vs) (hL : eE L Pre F) (hd : Nat.blt d C.n = true)
  (k : ∀ v G, R v G → cy C ops rest Q ((d, v) :: E) (G ++ F)) : cy C ops (⟨some d, .call ⟨.value (.func f), args.toArray, tys⟩, ty, pos, aft, none⟩ :: rest) Q E L :=
 n7 (Fp hS hb hE hL) hd fun v L' ⟨G, h1, e⟩ => by subst e; exact k v G h1
theorem J9 {f : FuncId} {t : Nat} {args : List Operand} {tys : Array TypeId} {vs fs cs : List Value} {Pre F : List ab} {R : Value → List ab → Prop} (hS : aC C.P f (fs ++ vs ++ cs) Pre (aG R)) (hb : aB C.P f = true) (ht : E.get t = some (.func (.func f) fs.toArray cs.toArray)) (hE : gG E args = some vs) (hL : eE L Pre F) (hd : Nat.blt d C.n = true)
  (k : ∀ v G, R v G → cy C ops rest Q ((d, v) :: E) (G ++ F)) : cy C ops (⟨some d, .call ⟨.value (.tmp t), args.toArray, tys⟩, ty, pos, aft, none⟩ :: rest) Q E L := by
 intro a w ha hi
 refine wpList_plain rfl (fun K hK => ?_)
 have hargs := ha.gG hE
 have hev := ha.eval (x := .tmp t) ht
 have hr : (execOp a.eval ⟨some d, .call ⟨.value (.tmp t), args.toArray, tys⟩, ty, pos, aft, none⟩).run C.P w = .ok (.enter f (fs ++ vs ++ cs).toArray) w := by
  simp only [execOp, resolve, hargs, hev, Deferred.ofValue, invoke, Sem.run_bind, Sem.run_pure, Result.andThen_ok, fL hb]
  simp
 unfold Oper.wp
 rw [hr]
 refine (hS C.w0 F w (hi.perm hL.perm)).mono ?_
 rintro e w' ⟨G, h1, v, rfl, h2⟩
 exact hK _ _ (k v G h2 _ _ (ha.put (fe hd) _) h1)
inductive Drop : List ab → List ab → Prop
 | refl {L : List ab} : Drop L L
 | skip {A : ab} {L F : List ab} : Drop L F → Drop (A :: L) F
 | keep {A : ab} {L F : List ab} : Drop L F → Drop (A :: L) (A :: F)
theorem Drop.inv {w0 w : World} {L F : List ab} (h : Drop L F) : ∀ {M : List ab}, Inv w0 (M ++ L) w → Inv w0 (M ++ F) w := by
 induction h with
 | refl => exact fun h => h
 | @skip A L F _ ih => exact fun {M} h => ih ((h.perm List.perm_middle).tail)
 | @keep A L F _ ih =>
  intro M h
  have := ih (M := M ++ [A]) (by simpa using h)
  simpa using this
def Sub (L M : List ab) : Prop := ∀ (w0 w : World), Inv w0 L w → Inv w0 M w
theorem sub {L G M F : List ab} (h : eE L G M) (d : Drop M F) : Sub L (G ++ F) := fun _ _ hi => d.inv (hi.perm h.perm)
theorem Sub.trans {L M N : List ab} (h : Sub L M) (k : Sub M N) : Sub L N := fun w0 w hi => k w0 w (h w0 w hi)
theorem fold {A : ab} {B F : List ab} (hA : ∀ w0 h, bU w0 B h → A w0 h) : Sub (B ++ F) (A :: F) := fun w0 w hi => hi.cls (fun h s => hA w0 h s)
def ks (C : Ctx) (rs : Array ResultVar) (E : Env) (L : List ab) (v : Value) : Prop := ∀ fn a w, fn.results = rs → ft C E a → Inv C.w0 L w → (results fn a.tmps).run C.P w = .ok v w
theorem ez : ks C #[] E L (.tuple #[]) := fun fn a w hr ha hi => by simp [results, hr]
theorem aw {t : Nat} (h : E.get t = some v) : ks C #[.tmp t] E L v := fun fn a w hr ha hi => by simp [results, hr, ha.get _ _ h]
theorem eC {t u : Nat} {v1 v2 : Value} (h1 : E.get t = some v1) (h2 : E.get u = some v2) : ks C #[.tmp t, .tmp u] E L (.tuple #[v1, v2]) := fun fn a w hr ha hi => by simp [results, hr, ha.get _ _ h1, ha.get _ _ h2]
theorem Ob {t u x : Nat} {v1 v2 v3 : Value} (h1 : E.get t = some v1) (h2 : E.get u = some v2) (h3 : E.get x = some v3) : ks C #[.tmp t, .tmp u, .tmp x] E L (.tuple #[v1, v2, v3]) := fun fn a w hr ha hi => by simp [results, hr, ha.get _ _ h1, ha.get _ _ h2, ha.get _ _ h3]
def oi (C : Ctx) (rs : Array ResultVar) (F : List ab) (Post : Ending → List ab → Prop) : QT := fun e E L => match e with
 | .normal => ∃ v G, ks C rs E L v ∧ Post (.returned v) G ∧ Sub L (G ++ F)
 | .ret => ∃ v G, ks C rs E L v ∧ Post (.returned v) G ∧ Sub L (G ++ F)
 | .panic ch => ∃ G, Post (.panicked ch) G ∧ Sub L (G ++ F)
 | _ => False
theorem ag {rs : Array ResultVar} {F G : List ab} {R : Value → List ab → Prop} (hr : ks C rs E L v) (hR : R v G) (hs : Sub L (G ++ F)) : oi C rs F (aG R) .ret E L := ⟨v, G, hr, ⟨v, rfl, hR⟩, hs⟩
theorem gv {rs : Array ResultVar} {F G : List ab} {R : Value → List ab → Prop} (hr : ks C rs E L v) (hR : R v G) (hs : Sub L (G ++ F)) : oi C rs F (aG R) .normal E L := ⟨v, G, hr, ⟨v, rfl, hR⟩, hs⟩
def zi : Nat → List Value → Env
 | _, [] => []
 | i, v :: vs => (i, v) :: zi (i + 1) vs
theorem sB : ∀ (i : Nat) (vs : List Value) (d : Nat) (u : Value), (zi i vs).get d = some u → i ≤ d ∧ vs[d - i]? = some u
 | i, [], d, u, h => by cases h
 | i, v :: vs, d, u, h => by
  rw [zi, Env.ic] at h
  by_cases e : i = d
  ·subst e; simp at h; simp [h]
  ·simp only [e, if_false] at h
   obtain ⟨h1, h2⟩ := sB (i + 1) vs d u h
   refine ⟨by omega, ?_⟩
   rw [show d - i = d - (i + 1) + 1 by omega]
   simpa using h2
theorem au {P : Program} {f : FuncId} {fn : Func} {c : Code} {args : List Value} {Pre : List ab} {Post : Ending → List ab → Prop} {n : Nat} (E : Env) (hf : P.funcs[f]? = some fn) (hb : fn.body = some c) (hn : fn.ntmps = n) (hE : zi 0 args = E) (hl : Nat.ble args.length n = true)
  (h : ∀ w0 F, Wp ⟨P, w0, n, [], fun ch L => ∃ G, Post (.panicked ch) G ∧ Sub L (G ++ F)⟩ c (oi ⟨P, w0, n, [], fun ch L => ∃ G, Post (.panicked ch) G ∧ Sub L (G ++ F)⟩ fn.results F Post) E (Pre ++ F)) : aC P f args Pre Post := by
 intro w0 F w hi
 have hl := Nat.le_of_ble_eq_true hl
 refine calls_of_wp hf hb (Code.wp_mono ?_ (h w0 F _ w ?_ hi))
 ·rintro e a w' ⟨E', L', ha', hi', hq⟩
  cases e with
  | normal => obtain ⟨v, G, h1, h2, h3⟩ := hq; exact ⟨ha'.defers, v, h1 fn a w' rfl ha' hi', G, h3 _ _ hi', h2⟩
  | ret => obtain ⟨v, G, h1, h2, h3⟩ := hq; exact ⟨ha'.defers, v, h1 fn a w' rfl ha' hi', G, h3 _ _ hi', h2⟩
  | panic ch => obtain ⟨G, h1, h2⟩ := hq; exact ⟨ha'.defers, G, h2 _ _ hi', h1⟩
  | exit _ => exact hq
  | goto _ => exact hq
  | outgrown => exact hq.elim
 ·refine ⟨rfl, ?_, ?_⟩
  ·simp [hn]; omega
  ·intro d v hd
   rw [← hE] at hd
   obtain ⟨_, h2⟩ := sB 0 args d v hd
   have hlt := (List.getElem?_eq_some_iff.1 h2).1
   simp at h2 hlt ⊢
   rw [Array.getElem?_append_left (by simpa using hlt)]
   simpa using h2
def k5 (w0 : World) (h : Hp) (a : Addr) : Option Value := match h a.block with
 | some (.cells c _ _) => if a.spot.isSome then none else c[a.off]?
 | some _ => none
 | none => if a.block < w0.heap.size then w0.cell? a else none
theorem tc {w0 w : World} {h : Hp} {a : Addr} {u : Value} (hb : Below w0.heap.size w0 w) (hh : ∀ b o, h b = some o → w0.heap.size ≤ b ∧ w.heap[b]? = some o) (e : k5 w0 h a = some u) : w.cell? a = some u := by
 unfold k5 at e
 split at e
 ·rename_i c T fr hc
  have := (hh _ _ hc).2
  simp only [World.cell?, this]
  exact e
 ·cases e
 ·split at e
  ·rename_i hlt; rw [hb.cell hlt]; exact e
  ·cases e
def Rd (p : Option Addr) (n sz : Nat) (vs : List Value) : ab := fun w0 h => vs.length = n * sz ∧ (n = 0 ∨ ∃ b o, p = some ⟨b, o, none⟩ ∧ ∀ i v, vs[i]? = some v → k5 w0 h ⟨b, o + i, none⟩ = some v)
def Sl (p : Option Addr) (n cap : Nat) (T : TypeId) (sz : Nat) (vs : List Value) : ab := fun w0 h =>
 (p = none ∧ n = 0 ∧ cap = 0 ∧ vs = []) ∨
 ∃ b o pre post, p = some ⟨b, o, none⟩ ∧ ai b T (pre ++ vs ++ post) w0 h ∧ pre.length = o ∧ vs.length = n * sz ∧ (cap - n) * sz ≤ post.length ∧ n ≤ cap
theorem Sl.rd {p : Option Addr} {n cap T sz : Nat} {vs : List Value} {w0 : World} {h : Hp} (hs : Sl p n cap T sz vs w0 h) : Rd p n sz vs w0 h := by
 rcases hs with ⟨rfl, rfl, rfl, rfl⟩ | ⟨b, o, pre, post, rfl, h1, h2, h3, h4, h5⟩
 ·exact ⟨by simp, .inl rfl⟩
 ·refine ⟨h3, .inr ⟨b, o, rfl, fun i v hv => ?_⟩⟩
  obtain ⟨_, h1⟩ := h1
  have hlt := (List.getElem?_eq_some_iff.1 hv).1
  simp only [k5, h1, Option.isSome_none, Bool.false_eq_true, if_false, List.getElem?_toArray]
  rw [List.append_assoc, List.getElem?_append_right (by omega), h2, show o + i - o = i by omega, List.getElem?_append_left hlt, hv]
theorem Inv.rd {w0 w : World} {L : List ab} {R : ab} {p : Option Addr} {n sz : Nat} {vs : List Value} (hi : Inv w0 L w) (hm : R ∈ L) (hR : ∀ h, R w0 h → Rd p n sz vs w0 h) :
  vs.length = n * sz ∧ (n = 0 ∨ ∃ b o, p = some ⟨b, o, none⟩ ∧ ∀ i v, vs[i]? = some v → w.cell? ⟨b, o + i, none⟩ = some v) := by
 obtain ⟨F, hb, h, a, h1, h2, d, l1, l2, hp, k⟩ := hi.mem hm
 obtain ⟨e1, e2⟩ := hR h1 hp
 refine ⟨e1, e2.imp id ?_⟩
 rintro ⟨b, o, rfl, hc⟩
 exact ⟨b, o, rfl, fun i v hv => tc hb (fun b o e => a b o (l1 b o e)) (hc i v hv)⟩
theorem Inv.pV {w0 w : World} {L : List ab} {A : ab} (hi : Inv w0 L w) (hA : A w0 (fun _ => none)) : Inv w0 (A :: L) w :=
 ⟨hi.below, let ⟨h, a, k⟩ := hi.heap; ⟨h, a, fun _ => none, h, fun _ => .inl rfl, fun _ _ e => by simp at e, Hp.le_refl _, hA, k⟩⟩
theorem wS {p : Prop} (h : ∀ w, Inv C.w0 L w → p) (k : p → cy C ops rest Q E L) : cy C ops rest Q E L := fun a w ha hi => k (h w hi) a w ha hi
theorem gU {c : Code} {p : Prop} (h : ∀ w, Inv C.w0 L w → p) (k : p → Wp C c Q E L) : Wp C c Q E L := fun a w ha hi => k (h w hi) a w ha hi
theorem G1 {w0 w : World} {L : List ab} {p : Option Addr} {n cap T sz : Nat} {vs : List Value} (hi : Inv w0 L w) (hm : Sl p n cap T sz vs ∈ L) :
  vs.length = n * sz ∧ n ≤ cap ∧ (n = 0 ∨ ∃ b o, p = some ⟨b, o, none⟩) := by
 obtain ⟨F, hb, h, a, h1, h2, d, l1, l2, hp, k⟩ := hi.mem hm
 rcases hp with ⟨rfl, rfl, rfl, rfl⟩ | ⟨b, o, pre, post, rfl, e1, e2, e3, e4, e5⟩
 ·exact ⟨by simp, Nat.le_refl _, .inl rfl⟩
 ·exact ⟨e3, e5, .inr ⟨b, o, rfl⟩⟩
theorem jY {x : Operand} {t ty' : TypeId} {e : TypeId} {p : Option Addr} {n cap : Nat} (ht : C.P.underlying t = some (.slice e)) (h : an E x = some (.slice p n cap)) : bB C (.call ⟨.builtin .len, [x].toArray, #[t]⟩) ty E L (.int .i64 n) L :=
 cF fun d pos aft g a w ha => by simp [execOp, resolve, invoke, builtin, Builtin.len_, ha.eval h, run_underlying ht, goInt]
theorem Ic {x : Operand} {t ty' : TypeId} {e : TypeId} {p : Option Addr} {n cap : Nat} (ht : C.P.underlying t = some (.slice e)) (h : an E x = some (.slice p n cap)) : bB C (.call ⟨.builtin .cap, [x].toArray, #[t]⟩) ty E L (.int .i64 cap) L :=
 cF fun d pos aft g a w ha => by simp [execOp, resolve, invoke, builtin, Builtin.cap_, ha.eval h, run_underlying ht, goInt]
theorem I2 {x y : Operand} {tys : Array TypeId} {k : IntKind} {m n : Int} (hx : an E x = some (.int k m)) (hy : an E y = some (.int k n)) : bB C (.call ⟨.builtin .min, [x, y].toArray, tys⟩) ty E L (.int k (if n < m then n else m)) L :=
 cF fun d pos aft g a w ha => by simp [execOp, resolve, invoke, builtin, Builtin.min_, Builtin.min2, ha.eval hx, ha.eval hy]
theorem BB {x y : Operand} {tys : Array TypeId} {k : IntKind} {m n : Int} (hx : an E x = some (.int k m)) (hy : an E y = some (.int k n)) : bB C (.call ⟨.builtin .max, [x, y].toArray, tys⟩) ty E L (.int k (if m < n then n else m)) L :=
 cF fun d pos aft g a w ha => by simp [execOp, resolve, invoke, builtin, Builtin.max_, Builtin.max2, ha.eval hx, ha.eval hy]
theorem FW {x y : Operand} {t b o q n cap T sz : Nat} {vs vs' : List Value} {u : Value} (i : Nat) (hs : bP C.P t = true) (hx : an E x = some (.pointer (some ⟨b, q, none⟩))) (hy : an E y = some u) (h1 : u.oneCell' = true)
  (hr : iQ L (Sl (some ⟨b, o, none⟩) n cap T sz vs) (Sl (some ⟨b, o, none⟩) n cap T sz vs') L') (hq : q = o + i) (hlt : i < vs.length) (hc : vs.set i u = vs') : bB C (.store t x y) ty E L undef L' := by
 intro d pos aft g a w ha hi
 obtain ⟨F, p1, p2⟩ := hr.perm
 obtain ⟨⟨b', o', pre, post⟩, ⟨e1, e2, e3, e4, e5⟩, hi1⟩ := (hi.perm p1).vn (ι := Nat × Nat × List Value × List Value) (K := fun z => (some (⟨b, o, none⟩ : Addr) = some ⟨z.1, z.2.1, none⟩) ∧ z.2.2.1.length = z.2.1 ∧ vs.length = n * sz ∧ (cap - n) * sz ≤ z.2.2.2.length ∧ n ≤ cap)
  (B := fun z => [ai z.1 T (z.2.2.1 ++ vs ++ z.2.2.2)]) (by
   rintro h (⟨e, _⟩ | ⟨b', o', pre, post, e1, e2, e3, e4, e5, e6⟩)
   ·cases e
   ·exact ⟨(b', o', pre, post), ⟨e1, e3, e4, e5, e6⟩, h, fun _ => none, fun _ => .inr rfl, Hp.le_refl _, fun _ _ e => by simp at e, e2, trivial⟩)
 simp only at e1 e2 e3 e4 e5 hi1
 cases e1
 subst hq
 obtain ⟨w', hr1, hi2, _⟩ := dz (C := C) (E := E) (ty := ty) (o := o + i) (cs := pre ++ vs ++ post) (cs' := pre ++ vs' ++ post) hs hx hy h1 (iQ.head (L := F)) (by simp; omega) (by
  rw [← hc, List.append_assoc, List.set_append_right _ _ (by omega), show o + i - pre.length = i by omega, List.set_append_left _ _ hlt, List.append_assoc]) d pos aft g a w ha hi1
 refine ⟨w', hr1, ?_, fun h => by cases h⟩
 refine Inv.perm ?_ p2
 refine Inv.cls (B := [ai b T (pre ++ vs' ++ post)]) ?_ hi2
 rintro h ⟨h1, h2, _, l1, _, c, _⟩
 exact .inr ⟨b, o, pre, post, rfl, c.mono l1, e2, by rw [← hc]; simpa using e3, e4, e5⟩
def dm (p : Option Addr) (l m sz : Nat) : Option Addr := if m = l then p else p.map (·.add (l * sz))
theorem mU (p : Option Addr) (m sz : Nat) : dm p 0 m sz = p := by
 unfold dm
 split
 ·rfl
 ·cases p <;> simp [Addr.add]
theorem Fw (b o l m sz : Nat) (h : l < m) : dm (some ⟨b, o, none⟩) l m sz = some ⟨b, o + l * sz, none⟩ := by
 unfold dm
 rw [if_neg (by omega)]
 simp [Addr.fa]
theorem dY {x : Operand} {lo hi mx : Option Operand} {t e sz bE n cap : Nat} {p : Option Addr} (l r m : Nat) (ht : sliceB C.P t = some (e, sz, bE)) (hx : an E x = some (.slice p n cap))
  (hl : match lo with | none => l = 0 | some z => ∃ k, an E z = some (.int k (l : Int)))
  (hr : match hi with | none => r = n ∧ mx = none | some z => ∃ k, an E z = some (.int k (r : Int)))
  (hm : match mx with | none => m = cap | some z => ∃ k, an E z = some (.int k (m : Int)))
  (h1 : l ≤ r) (h2 : r ≤ m) (h3 : m ≤ cap) : bB C (.slice t x lo hi mx) ty E L (.slice (dm p l m sz) (r - l) (m - l)) L :=
 cF fun d pos aft g a w ha => by
  obtain ⟨e1, i, e2, e3, e4⟩ := iH ht
  have key : ∀ (z : Operand) (j y : Nat) (c : BoundsCode) k, an E z = some (.int k (j : Int)) → j ≤ y → (Instr.sliceBound (a.eval z) y c).run C.P w = .ok j w := by
   intro z j y c k hz hj
   have : (j : Int) ≤ (y : Int) := by omega
   simp [Instr.sliceBound, ha.eval hz, asIntOf, hj]
  have hb : (Instr.sliceBounds true n cap (lo.map a.eval) (hi.map a.eval) (mx.map a.eval)).run C.P w = .ok (l, r, m) w := by
   unfold Instr.sliceBounds
   cases mx with
   | none =>
    simp only at hm
    subst hm
    cases hi with
    | none =>
     simp only at hr
     obtain ⟨rfl, _⟩ := hr
     cases lo with
     | none => simp only at hl; subst hl; simp
     | some z => simp only at hl; obtain ⟨k, hz⟩ := hl; simp [key z l _ _ k hz h1]
    | some y =>
     simp only at hr
     obtain ⟨k', hy⟩ := hr
     cases lo with
     | none => simp only at hl; subst hl; simp [key y r _ _ k' hy h2]
     | some z => simp only at hl; obtain ⟨k, hz⟩ := hl; simp [key z l _ _ k hz h1, key y r _ _ k' hy h2]
   | some u =>
    simp only at hm
    obtain ⟨k2, hu⟩ := hm
    cases hi with
    | none => simp at hr
    | some y =>
     simp only at hr
     obtain ⟨k', hy⟩ := hr
     cases lo with
     | none => simp only at hl; subst hl; simp [key y r _ _ k' hy h2, key u m _ _ k2 hu h3]
     | some z => simp only at hl; obtain ⟨k, hz⟩ := hl; simp [key z l _ _ k hz h1, key y r _ _ k' hy h2, key u m _ _ k2 hu h3]
  simp [execOp, ha.eval hx, Instr.sliceAt, run_underlying e1, Instr.slice, hb, run_sizeOf e2, e3, dm]
end
end Go.Sl
namespace Go.Sl
open Go.RowKit (Below)
theorem Sl.open_ {p : Option Addr} {n cap T sz : Nat} {vs : List Value} (w0 : World) (h : Hp) (hs : Sl p n cap T sz vs w0 h) :
  ∃ z : Option (Nat × Nat × List Value × List Value), (match z with
   | none => p = none ∧ n = 0 ∧ cap = 0 ∧ vs = []
   | some (b, o, pre, post) => p = some ⟨b, o, none⟩ ∧ pre.length = o ∧ vs.length = n * sz ∧ (cap - n) * sz ≤ post.length ∧ n ≤ cap) ∧
   bU w0 (match z with | none => [] | some (b, o, pre, post) => [ai b T (pre ++ vs ++ post)]) h := by
 rcases hs with ⟨rfl, rfl, rfl, rfl⟩ | ⟨b, o, pre, post, e1, e2, e3, e4, e5, e6⟩
 ·exact ⟨none, ⟨rfl, rfl, rfl, rfl⟩, trivial⟩
 ·exact ⟨some (b, o, pre, post), ⟨e1, e3, e4, e5, e6⟩, h, fun _ => none, fun _ => .inr rfl, Hp.le_refl _, fun _ _ e => by simp at e, e2, trivial⟩
theorem Sl.mk {b o n cap T sz : Nat} {pre vs post : List Value} {w0 : World} {h : Hp} (hc : bU w0 [ai b T (pre ++ vs ++ post)] h) (h1 : pre.length = o) (h2 : vs.length = n * sz) (h3 : (cap - n) * sz ≤ post.length) (h4 : n ≤ cap) : Sl (some ⟨b, o, none⟩) n cap T sz vs w0 h := by
 obtain ⟨g, g2, _, l1, _, c, _⟩ := hc
 exact .inr ⟨b, o, pre, post, rfl, c.mono l1, h1, h2, h3, h4⟩
theorem ai.sl {b n T sz : Nat} {vs : List Value} {w0 : World} {h : Hp} (hc : ai b T vs w0 h) (h2 : vs.length = n * sz) : Sl (some ⟨b, 0, none⟩) n n T sz vs w0 h :=
 .inr ⟨b, 0, [], [], rfl, by simpa using hc, rfl, h2, by simp, Nat.le_refl _⟩
theorem Sl.nil (T sz : Nat) (w0 : World) (h : Hp) : Sl none 0 0 T sz [] w0 h := .inl ⟨rfl, rfl, rfl, rfl⟩
theorem Inv.DI {w0 w : World} {L : List ab} (hi : Inv w0 L w) (T sz : Nat) : Inv w0 (Sl none 0 0 T sz [] :: L) w := hi.pV (Sl.nil T sz _ _)
section
variable {C : Ctx} {Q : QT} {E : Env} {L L' : List ab} {ops : Array Oper} {rest : List Oper} {d : Nat} {ty : TypeId} {pos : String} {aft : Array Edge} {op : Op} {v : Value}
theorem jk {c : Code} (A : ab) (hA : A C.w0 (fun _ => none)) (k : Wp C c Q E (A :: L)) : Wp C c Q E L := fun a w ha hi => k a w ha (hi.pV hA)
theorem TD {A B : ab} {F : List ab} (hr : fR L A F) (hA : ∀ h, A C.w0 h → B C.w0 h) (k : cy C ops rest Q E (B :: F)) : cy C ops rest Q E L := fun a w ha hi => k a w ha ((hi.perm hr.perm).imp hA)
theorem Je {c : Code} {A B : ab} {F : List ab} (hr : fR L A F) (hA : ∀ h, A C.w0 h → B C.w0 h) (k : Wp C c Q E (B :: F)) : Wp C c Q E L := fun a w ha hi => k a w ha ((hi.perm hr.perm).imp hA)
theorem ja {b : Builtin} {xs : List Operand} {tys : Array TypeId} {vs : List Value} {a : Act} (hx : xs.toArray.map a.eval = vs.toArray) (d : Option Nat) (g : Option (Nat × Bool)) (w : World) :
  ∃ consts, (execOp a.eval ⟨d, .call ⟨.builtin b, xs.toArray, tys⟩, ty, pos, aft, g⟩).run C.P w = (builtin b tys ty consts vs.toArray).run C.P w := by
 refine ⟨xs.toArray.map fun | .const _ => true | _ => false, ?_⟩
 simp only [execOp, resolve, hx, Sem.run_bind, Sem.run_pure, Result.andThen_ok, invoke]
 rfl
theorem wV {s x : Operand} {t e sz bE n m cap cap2 : Nat} {p p2 : Option Addr} {vs ws zs : List Value} {R : ab} {F : List ab}
  (ht : sliceB C.P t = some (e, sz, bE)) (hz : cm C.P e = some zs) (hsz : Nat.ble 1 sz = true) (hby : Nat.ble 1 bE = true)
  (hs : an E s = some (.slice p n cap)) (hx : an E x = some (.slice p2 m cap2))
  (hL : fR L (Sl p n cap e sz vs) F) (hm : R ∈ L) (hR : ∀ h, R C.w0 h → Rd p2 m sz ws C.w0 h) (h1 : ws.all Value.oneCell' = true) (hb : (n + m) * bE ≤ 140737488355328) :
  jM C (.call ⟨.builtin .append, [s, x].toArray, #[t, t]⟩) ty E L (fun v L' => ∃ p' cap', v = .slice p' (n + m) cap' ∧ L' = Sl p' (n + m) cap' e sz (vs ++ ws) :: F) := by
 intro d pos aft g a w K Qx ha hi hK
 obtain ⟨ht1, i, hi2, rfl, rfl⟩ := iH ht
 obtain ⟨i', z, hz1, hz2, hz3, hz4⟩ := jv hz
 rw [hi2] at hz1
 cases hz1
 have hsz := Nat.le_of_ble_eq_true hsz
 have hby := Nat.le_of_ble_eq_true hby
 have hnm : n + m ≤ (n + m) * i.bytes := Nat.le_mul_of_pos_right _ hby
 have hsmall : n + m ≤ 140737488355328 := by omega
 obtain ⟨hwl, hwc⟩ := hi.rd hm hR
 obtain ⟨consts, hrun⟩ := ja (C := C) (ty := ty) (pos := pos) (aft := aft) (b := .append) (xs := [s, x]) (tys := #[t, t]) (vs := [.slice p n cap, .slice p2 m cap2]) (a := a) (by simp [ha.eval hs, ha.eval hx]) d g w
 suffices h : ∃ p' cap' w', (Builtin.append_ #[t, t] ty #[.slice p n cap, .slice p2 m cap2]).run C.P w = .ok (.slice p' (n + m) cap') w' ∧ Inv C.w0 (Sl p' (n + m) cap' e i.size (vs ++ ws) :: F) w' by
  obtain ⟨p', cap', w', hr, hi'⟩ := h
  unfold Oper.wp
  rw [hrun]
  simp only [builtin, Sem.run_bind, hr, Result.andThen_ok, Sem.run_pure]
  exact hK _ _ _ ⟨p', cap', rfl, rfl⟩ hi'
 have hfirst : ∀ w1 : World, (∀ q, w1.cell? q = w.cell? q) → (Builtin.firstCells i.size m (.slice p2 m cap2)).run C.P w1 = .ok ws.toArray w1 := by
  intro w1 hw1
  by_cases hm0 : m = 0
  ·subst hm0
   simp at hwl
   subst hwl
   cases p2 <;> simp [Builtin.firstCells, loadCells, loadCellsFrom]
  ·rcases hwc with hwc | ⟨b2, o2, rfl, hc⟩
   ·exact absurd hwc hm0
   ·exact run_firstCells_some (P := C.P) w1 i.size m _ m cap2 ws hwl (fun j v hj => by rw [hw1, Addr.fa]; exact hc j v hj)
 have hall : ∀ u ∈ ws, u.oneCell' = true := fun u hu => by simpa using List.all_eq_true.1 h1 u hu
 have hgrow : ∀ (vs0 : List Value), vs0 = vs → n * i.size = vs.length → cap < n + m →
   (∀ w1 : World, (∀ q, w1.cell? q = w.cell? q) → (Builtin.firstCells i.size n (.slice p n cap)).run C.P w1 = .ok vs.toArray w1) →
   Inv C.w0 F w →
   ∃ p' cap' w', (Builtin.append_ #[t, t] ty #[.slice p n cap, .slice p2 m cap2]).run C.P w = .ok (.slice p' (n + m) cap') w' ∧ Inv C.w0 (Sl p' (n + m) cap' e i.size (vs ++ ws) :: F) w' := by
  intro vs0 _ hvl hlt hold hiF
  have hfit : Builtin.nextslicecap (n + m) cap * i.bytes ≤ 281474976710656 := growslice_fits hlt hb
  have h63 : ¬ (9223372036854775807 < ((n : Int) + (m : Int))) := by omega
  have h48 : ¬ (281474976710656 < Builtin.nextslicecap (n + m) cap * i.bytes) := by omega
  have hng : ¬ (n + m ≤ cap) := by omega
  refine ⟨some ⟨w.heap.size, 0, none⟩, grownCap w (n + m) cap e, w.drew.alloc (.cells (vs ++ ws ++ (Builtin.zeroCells z.cells (grownCap w (n + m) cap e - (n + m))).toList).toArray e), ?_, ?_⟩
  ·have e1 := hold w.drew (fun q => by simp)
   have e2 := hfirst w.drew (fun q => by simp)
   have harr : ∀ Z : Array Value, (vs ++ ws ++ Z.toList).toArray = vs.toArray ++ ws.toArray ++ Z := fun Z => by apply Array.ext'; simp
   rw [harr]
   simp [Builtin.append_, run_underlying ht1, sizeOf, typeInfo, zeroValue, hi2, hz2, Builtin.lenOf, hng, h63, h48, Question.forced, e1, e2, newRow, grownCap]
   congr 1
   congr 1
   apply Array.ext'
   simp
  ·have hge := grownCap_ge w (n + m) cap e
   refine Inv.imp ?_ (hiF.drew.alloc e (vs ++ ws ++ (Builtin.zeroCells z.cells (grownCap w (n + m) cap e - (n + m))).toList))
   intro h hc
   refine .inr ⟨_, 0, [], (Builtin.zeroCells z.cells (grownCap w (n + m) cap e - (n + m))).toList, rfl, by simpa using hc, rfl, ?_, ?_, hge⟩
   ·simp [← hvl, hwl, Nat.add_mul]
   ·have : z.cells.size = i.size := by rw [hz3, hz4]; simp
    simp [size_zeroCells, this]
 obtain ⟨zz, hzz, hi1⟩ := (hi.perm hL.perm).vn (Sl.open_ C.w0)
 cases zz with
 | none =>
  obtain ⟨rfl, rfl, rfl, rfl⟩ := hzz
  by_cases hm0 : m = 0
  ·subst hm0
   simp at hwl
   subst hwl
   refine ⟨none, 0, w, ?_, (hi1.DI e i.size)⟩
   have e1 := hfirst w (fun q => rfl)
   simp [Builtin.append_, run_underlying ht1, sizeOf, typeInfo, hi2, Builtin.lenOf, e1]
  ·exact hgrow [] rfl (by simp) (by omega) (fun w1 _ => by simp [Builtin.firstCells]) hi1
 | some zz =>
  obtain ⟨b, o, pre, post⟩ := zz
  obtain ⟨rfl, e1, e2, e3, e4⟩ := hzz
  by_cases hroom : n + m ≤ cap
  ·have hfit : o + n * i.size + ws.length ≤ (pre ++ vs ++ post).length := by
    have : (n + m - n) * i.size ≤ (cap - n) * i.size := Nat.mul_le_mul_right _ (by omega)
    rw [show n + m - n = m by omega] at this
    simp only [List.length_append, e1, e2, hwl]
    omega
   obtain ⟨w', hr, hi'⟩ := iE (C := C) ws (o + n * i.size) 0 _ _ w hall (by simpa using hfit) hi1
   refine ⟨some ⟨b, o, none⟩, cap, w', ?_, ?_⟩
   ·have hf := hfirst w (fun q => rfl)
    simp [Builtin.append_, run_underlying ht1, sizeOf, typeInfo, hi2, Builtin.lenOf, hroom, hf, Addr.fa, hr]
   ·refine Inv.cls (B := [ai b e (pre ++ (vs ++ ws) ++ post.drop ws.length)]) (fun h hc => Sl.mk hc e1 (by simp [e2, hwl, Nat.add_mul]) ?_ hroom) ?_
    ·simp only [List.length_drop, hwl]
     have : (cap - (n + m)) * i.size = (cap - n) * i.size - m * i.size := by rw [← Nat.sub_mul]; congr 1; omega
     omega
    ·have e5 : (pre ++ vs ++ post).take (o + n * i.size + 0) = pre ++ vs := by
      rw [Nat.add_zero]
      exact List.take_left' (by simp [e1, e2])
     have e6 : (pre ++ vs ++ post).drop (o + n * i.size + 0 + ws.length) = post.drop ws.length := by
      rw [Nat.add_zero, show o + n * i.size + ws.length = (pre ++ vs).length + ws.length by simp [e1, e2]]
      rw [← List.drop_drop, List.drop_left]
     rw [e5, e6] at hi'
     simpa [List.append_assoc] using hi'
  ·refine hgrow vs rfl e2.symm (by omega) (fun w1 hw1 => ?_) hi1.tail
   refine run_firstCells_some (P := C.P) w1 i.size n _ n cap vs e2 (fun j v hj => ?_)
   have hlt := (List.getElem?_eq_some_iff.1 hj).1
   rw [hw1, Addr.fa, Inv.ie hi1]
   rw [List.append_assoc, List.getElem?_append_right (by omega), show o + j - pre.length = j by omega, List.getElem?_append_left hlt]
   exact hj
theorem NN {x y : Operand} {t e sz bE : Nat} {k1 k2 : IntKind} {i1 i2 : Int} {zs : List Value} (n c : Nat) (e1 : i1 = (n : Int)) (e2 : i2 = (c : Int)) (ht : sliceB C.P t = some (e, sz, bE)) (hz : cm C.P e = some zs) (hsz : Nat.ble 1 sz = true)
  (hx : an E x = some (.int k1 i1)) (hy : an E y = some (.int k2 i2)) (hnc : n ≤ c) (h63 : c ≤ 9223372036854775807) (hb : c * bE ≤ 281474976710656) :
  jM C (.makeSlice t x y) ty E L (fun v L' => ∃ b, v = .slice (some ⟨b, 0, none⟩) n c ∧ L' = Sl (some ⟨b, 0, none⟩) n c e sz ((List.replicate n zs).flatten) :: L) := by
 intro d pos aft g a w K Qx ha hi hK
 subst e1
 subst e2
 obtain ⟨ht1, i, hi2, rfl, rfl⟩ := iH ht
 obtain ⟨i', z, hz1, hz2, hz3, hz4⟩ := jv hz
 rw [hi2] at hz1
 cases hz1
 have hsz := Nat.le_of_ble_eq_true hsz
 have hc : ((c * i.bytes : Nat) : Int) = (i.bytes : Int) * (c : Int) := by rw [Int.natCast_mul, Int.mul_comm]
 have hr := run_make (P := C.P) w t e i z ht1 hi2 hz2 k1 k2 n c (by omega) (by omega) (by omega) (by omega)
 have hm : (madeCells z.cells (c * i.size)).toList = (List.replicate c zs).flatten := by
  have hzl : zs.length = i.size := hz4.symm
  apply List.ext_getElem?
  intro j
  by_cases hj : j < c * i.size
  ·have h1 : ((List.replicate c zs).flatten)[j]? = zs[j % i.size]? := by
    have hgen : ∀ (c j : Nat), j < c * zs.length → ((List.replicate c zs).flatten)[j]? = zs[j % zs.length]? := by
     intro c
     induction c with
     | zero => intro j h; simp at h
     | succ c ih =>
      intro j h
      simp only [List.replicate_succ, List.flatten_cons]
      by_cases hj : j < zs.length
      ·rw [List.getElem?_append_left hj, Nat.mod_eq_of_lt hj]
      ·rw [List.getElem?_append_right (by omega), ih _ (by rw [Nat.succ_mul] at h; omega)]
       congr 1
       exact (Nat.mod_eq_sub_mod (by omega)).symm
    have := hgen c j (by rw [hzl]; exact hj)
    rwa [hzl] at this
   rw [h1]
   have hlt : j % i.size < i.size := Nat.mod_lt _ (by omega)
   simp [madeCells, hz3, hj]
   rw [hzl]
   simp [hlt, hzl]
  ·rw [List.getElem?_eq_none, List.getElem?_eq_none]
   ·simp [hzl]; omega
   ·simp [madeCells]; omega
 have hrun : (execOp a.eval ⟨d, .makeSlice t x y, ty, pos, aft, g⟩).run C.P w = .ok (.value (.slice (some ⟨w.heap.size, 0, none⟩) n c)) (w.alloc (.cells ((List.replicate c zs).flatten).toArray e)) := by
  simp only [execOp, ha.eval hx, ha.eval hy, Sem.run_bind, hr, Result.andThen_ok, Sem.run_pure, Int.toNat_natCast]
  congr 2
  rw [← hm]
 unfold Oper.wp
 rw [hrun]
 refine hK _ _ _ ⟨_, rfl, rfl⟩ (Inv.imp (fun h hc => ?_) (hi.alloc e _))
 refine .inr ⟨_, 0, [], (List.replicate (c - n) zs).flatten, rfl, ?_, rfl, by simp [hz4], by simp [hz4], hnc⟩
 have : (List.replicate c zs).flatten = (List.replicate n zs).flatten ++ (List.replicate (c - n) zs).flatten := by
  rw [← List.flatten_append, List.replicate_append_replicate, show n + (c - n) = c by omega]
 simp only [List.nil_append]
 rw [← this]
 exact hc
theorem xH {t e sz bE len : Nat} {parts : List (Nat × Operand)} {pv : List (Nat × Value)} {zs vs : List Value} (ht : sliceB C.P t = some (e, sz, bE)) (hz : cm C.P e = some zs) (hsz : Nat.ble 1 sz = true) (hsm : Nat.ble (len * sz) 16777216 = true)
  (hp : ∀ a, ft C E a → parts.map (fun p => (p.1, a.eval p.2)) = pv) (hf : Instr.fill (fun i => some (i * sz, sz)) ((List.replicate len zs).flatten.toArray) pv = some vs.toArray) (hl : vs.length = len * sz) :
  jM C (.buildSlice t len parts.toArray) ty E L (fun v L' => ∃ b, v = .slice (some ⟨b, 0, none⟩) len len ∧ L' = Sl (some ⟨b, 0, none⟩) len len e sz vs :: L) := by
 intro d pos aft g a w K Qx ha hi hK
 obtain ⟨ht1, i, hi2, rfl, rfl⟩ := iH ht
 obtain ⟨i', z, hz1, hz2, hz3, hz4⟩ := jv hz
 rw [hi2] at hz1
 cases hz1
 have hsz := Nat.le_of_ble_eq_true hsz
 have hsm := Nat.le_of_ble_eq_true hsm
 have hzl : zs.length = i.size := hz4.symm
 have hgen : ∀ (c j : Nat), j < c * zs.length → ((List.replicate c zs).flatten)[j]? = zs[j % zs.length]? := by
  intro c
  induction c with
  | zero => intro j h; simp at h
  | succ c ih =>
   intro j h
   simp only [List.replicate_succ, List.flatten_cons]
   by_cases hj : j < zs.length
   ·rw [List.getElem?_append_left hj, Nat.mod_eq_of_lt hj]
   ·rw [List.getElem?_append_right (by omega), ih _ (by rw [Nat.succ_mul] at h; omega)]
    congr 1
    exact (Nat.mod_eq_sub_mod (by omega)).symm
 have hzero : ∀ zz : Array Value, (len * i.size = 0 → zz = #[]) → (len * i.size ≠ 0 → zz = zs.toArray) → (Array.range (len * i.size)).map (zz[· % zz.size]!) = (List.replicate len zs).flatten.toArray := by
  intro zz h0 h1
  apply Array.ext'
  simp only [Array.toList_map, Array.toList_range]
  apply List.ext_getElem?
  intro j
  by_cases hj : j < len * i.size
  ·rw [h1 (by omega)]
   have hlt : j % i.size < i.size := Nat.mod_lt _ (by omega)
   rw [hgen len j (by rw [hzl]; exact hj), hzl]
   simp [hj, hzl, hlt]
  ·rw [List.getElem?_eq_none, List.getElem?_eq_none]
   ·simp [hzl]; omega
   ·simp; omega
 have hmap : parts.toArray.map (fun x => match x with | (i, x) => (i, a.eval x)) = pv.toArray := by
  rw [← hp a ha]
  simp
 have hrun : (execOp a.eval ⟨d, .buildSlice t len parts.toArray, ty, pos, aft, g⟩).run C.P w = .ok (.value (.slice (some ⟨w.heap.size, 0, none⟩) len len)) (w.alloc (.cells vs.toArray e)) := by
  have h16 : ¬ (len * i.size > 2 ^ 24) := by omega
  simp only [execOp, hmap, Instr.buildSlice, Sem.run_bind, run_underlying ht1, Result.andThen_ok, run_sizeOf hi2, if_neg h16]
  by_cases h0 : len * i.size = 0
  ·have e := hzero #[] (fun _ => rfl) (fun h => absurd h0 h)
   simp only [if_pos h0, Sem.run_bind, Sem.run_pure, Result.andThen_ok, e, hf]
   simp [newRow]
  ·have e := hzero zs.toArray (fun h => absurd h h0) (fun _ => rfl)
   simp only [if_neg h0, Sem.run_bind, Sem.run_pure, Result.andThen_ok, zeroValue, typeInfo, run_program, hi2, hz2, hz3, e, hf]
   simp [newRow]
 unfold Oper.wp
 rw [hrun]
 exact hK _ _ _ ⟨_, rfl, rfl⟩ (Inv.imp (fun h hc => ai.sl hc hl) (hi.alloc e vs))
def oq (E : Env) : List (Nat × Operand) → Option (List (Nat × Value))
 | [] => some []
 | (i, x) :: xs => match an E x with | some v => (match oq E xs with | some vs => some ((i, v) :: vs) | none => none) | none => none
theorem mw : ∀ {ps : List (Nat × Operand)} {pv : List (Nat × Value)}, oq E ps = some pv → ∀ a, ft C E a → ps.map (fun p => (p.1, a.eval p.2)) = pv
 | [], pv, h, a, ha => by simp only [oq] at h; cases h; rfl
 | (i, x) :: ps, pv, h, a, ha => by
  simp only [oq] at h
  split at h <;> try simp at h
  rename_i v hv
  split at h <;> try simp at h
  rename_i vs hvs
  subst h
  simp [ha.eval hv, mw hvs a ha]
def ew (P : Program) (t : TypeId) : Option (List (Nat × Nat)) := match P.underlying t with
 | some (.struct fs) => fs.toList.mapM fun f => match P.info? f.type with | some i => some (f.offset, i.size) | none => none
 | _ => none
theorem c5 {t : TypeId} {parts : List (Nat × Operand)} {pv : List (Nat × Value)} {zs cs : List Value} {pl : List (Nat × Nat)} (hpl : ew C.P t = some pl) (hz : cm C.P t = some zs) (hp : oq E parts = some pv) (hf : Instr.fill (pl.toArray[·]?) zs.toArray pv = some cs.toArray) :
  bB C (.build t parts.toArray) ty E L (.agg cs.toArray) L :=
 cF fun d pos aft g a w ha => by
  obtain ⟨i', z, hz1, hz2, hz3, hz4⟩ := jv hz
  have hmap : parts.toArray.map (fun x => match x with | (i, x) => (i, a.eval x)) = pv.toArray := by
   rw [← mw hp a ha]; simp
  unfold ew at hpl
  split at hpl
  ·rename_i fs hfs
   have hplaces : ((fs.mapM fun f => do pure (f.offset, ← sizeOf f.type)) : Sem (Array (Nat × Nat))).run C.P w = .ok pl.toArray w := by
    have hgen : ∀ (l : List Field) (pl : List (Nat × Nat)), l.mapM (fun f => match C.P.info? f.type with | some i => some (f.offset, i.size) | none => none) = some pl →
      ((l.mapM fun f => do pure (f.offset, ← sizeOf f.type)) : Sem (List (Nat × Nat))).run C.P w = .ok pl w := by
     intro l
     induction l with
     | nil => intro pl h; simp at h; subst h; simp
     | cons f l ih =>
      intro pl h
      simp only [List.mapM_cons] at h ⊢
      cases hi : C.P.info? f.type with
      | none => simp [hi] at h
      | some i =>
       simp only [hi] at h
       cases hl : l.mapM (fun f => match C.P.info? f.type with | some i => some (f.offset, i.size) | none => none) with
       | none => simp [hl] at h
       | some pl' =>
        simp [hl] at h
        subst h
        have := ih pl' hl
        simp only [Sem.run_bind, run_sizeOf hi, Result.andThen_ok, Sem.run_pure, this]
    rw [Array.mapM_eq_mapM_toList]
    have := hgen fs.toList pl hpl
    simp only [Sem.run_map, this, Result.andThen_ok]
   simp only [execOp, hmap, Instr.build, Sem.run_bind, zeroValue, typeInfo, run_program, Result.andThen_ok, hz1, hz2, Sem.run_pure, run_underlying hfs, hplaces, hz3]
   simp only [List.getElem?_toArray] at hf ⊢
   simp [hf]
  ·cases hpl
end
end Go.Sl
namespace Go.Sl
open Go.RowKit (Below)
def dG (y : Nat → Value) (i : Nat) (v : Value) : Nat → Value := fun j => if j = i then v else y j
theorem mq (y : Nat → Value) (i : Nat) (v : Value) : dG y i v i = v := by simp [dG]
theorem yE {y : Nat → Value} {i j : Nat} {v : Value} (h : j ≠ i) : dG y i v j = y j := by simp [dG, h]
def QX (C : Ctx) := { Q : Exit → Act → World → Prop // ∀ ch E L a w, ft C E a → Inv C.w0 L w → C.X ch L → Q (.panic ch) a w }
def Step (C : Ctx) (ops : Array Oper) (o : Oper) (E : Env) (L : List ab) (R : Value → List ab → Prop) : Prop :=
 ∀ a w (K : Act → World → Prop) (Q : QX C), ft C E a → Inv C.w0 L w → (∀ v L' w', R v L' → Inv C.w0 L' w' → K (a.put o.dst v) w') →
  (if Region.wanted o (yielded ops a.tmps) then o.wp C.P a w K Q.1 else K (a.put o.dst undef) w)
section
variable {C : Ctx} {ops : Array Oper} {E : Env} {L L' : List ab} {R : Value → List ab → Prop} {d : Option Nat} {ty : TypeId} {pos : String} {aft : Array Edge} {op : Op} {v : Value}
theorem ui (h : jM C op ty E L R) : Step C ops ⟨d, op, ty, pos, aft, none⟩ E L R := fun a w K Q ha hi hK => by
 rw [if_pos (by simp [Region.wanted])]
 exact h d pos aft none a w K Q.1 ha hi hK
theorem dE (h : bB C op ty E L v L') (hR : R v L') : Step C ops ⟨d, op, ty, pos, aft, none⟩ E L R :=
 ui (fun d pos aft g a w K Q ha hi hK => h.x d pos aft g a w K Q ha hi (fun v' M w' ⟨e1, e2⟩ hi' => hK v' M w' (by subst e1; subst e2; exact hR) hi'))
theorem gL {j : Nat} {want : Bool} (hg : iT ops E j = some want) (h : Step C ops ⟨d, op, ty, pos, aft, none⟩ E L R) : Step C ops ⟨d, op, ty, pos, aft, some (j, want)⟩ E L R := fun a w K Q ha hi hK => by
 have hw := jF (o := ⟨d, op, ty, pos, aft, some (j, want)⟩) ha hg rfl
 rw [if_pos (by rw [hw]; simp)]
 have h1 := h a w K Q ha hi hK
 rw [if_pos (by simp [Region.wanted])] at h1
 exact h1
theorem KW {j : Nat} {want b : Bool} (hg : iT ops E j = some b) (hb : (b == want) = false) (hR : R undef L) : Step C ops ⟨d, op, ty, pos, aft, some (j, want)⟩ E L R := fun a w K Q ha hi hK => by
 have hw := jF (o := ⟨d, op, ty, pos, aft, some (j, want)⟩) ha hg rfl
 rw [if_neg (by rw [hw, hb]; simp)]
 exact hK _ _ _ hR hi
end
def ld (o : Oper) : List Nat := o.after.toList.filterMap fun e => if Region.binds .any e then some e.on else none
structure dI where
 fE : List Nat
 iC : List Nat
 kY : List Nat
 lo : Nat
 hi : Nat
def mem (x : Nat) : List Nat → Bool
 | [] => false
 | y :: l => Nat.beq x y || mem x l
theorem mem_iff {x : Nat} : ∀ {l : List Nat}, mem x l = true ↔ x ∈ l
 | [] => by simp [mem]
 | y :: l => by
  simp only [mem, Bool.or_eq_true, List.mem_cons, mem_iff (l := l)]
  constructor
  ·rintro (h | h)
   ·exact .inl (Nat.eq_of_beq_eq_true h)
   ·exact .inr h
  ·rintro (h | h)
   ·exact .inl (by subst h; simp)
   ·exact .inr h
def ef (ps : List dI) (i : Nat) : List Nat := match ps[i]? with | some p => p.fE | none => []
def dK (l : List Oper) (i : Nat) : Option Nat := match l[i]? with | some o => o.dst | none => none
def noSelect : Op → Bool
 | .select _ _ => false
 | _ => true
def Ee (ps : List dI) : List Nat → Bool
 | [] => true
 | c :: r => r.all (fun q => mem c (ef ps q)) && Ee ps r
def w6 (C : Ctx) (l : List Oper) (ps : List dI) (ch : List Nat) (i : Nat) : Bool :=
 match l[i]?, ps[i]? with
 | some o, some p =>
  noSelect o.op &&
  (ld o).all (fun j => Nat.blt j i) &&
  p.fE.all (fun j => Nat.blt j i && (mem j (ld o) || (ld o).any (fun k => mem j (ef ps k)))) &&
  p.iC.all (fun j => mem j p.fE) &&
  p.kY.all (fun s => (List.range l.length).all fun j => match dK l j with | some t => !(Nat.beq t s) || Nat.beq j i || mem i (ef ps j) | none => true) &&
  (ch.take p.lo).all (fun c => mem c p.fE) && Nat.ble p.lo ch.length &&
  (match ch[p.hi]? with | some c => Nat.beq c i || mem i (ef ps c) | none => true) &&
  (match o.dst with
   | some t => Nat.blt t C.n && (List.range l.length).all (fun j => Nat.beq j i || (match dK l j with | some u => !(Nat.beq u t) | none => true))
   | none => true) &&
  (match o.guard with | some (j, _) => mem j p.iC | none => true)
 | _, _ => false
def ZV (C : Ctx) (l : List Oper) (ps : List dI) (ch : List Nat) : Bool :=
 (List.range l.length).all (w6 C l ps ch) && Ee ps ch && ch.all (fun c => Nat.blt c l.length) &&
 (List.range ch.length).all (fun p => match ch[p]? with | some c => (match ps[c]? with | some q => Nat.beq q.lo p && Nat.beq q.hi p | none => false) | none => false)
def qI (l : List Oper) (E0 : Env) (p : dI) (y : Nat → Value) : Env :=
 (p.iC.filterMap fun j => match dK l j with | some t => some (t, y j) | none => none) ++ p.kY.filterMap fun s => match E0.get s with | some v => some (s, v) | none => none
def r8 (l : List Oper) (y : Nat → Value) : Nat → Env → Env
 | 0, E => E
 | i + 1, E => match dK l i with | some t => (t, y i) :: r8 l y i E | none => r8 l y i E
def Obl (C : Ctx) (l : List Oper) (E0 : Env) (ps : List dI) (ch : List Nat) (Φ : Nat → (Nat → Value) → Prop) (Lk : Nat → (Nat → Value) → List ab) (At : Nat → (Nat → Value) → List ab) (AP : List ab → Prop) (i : Nat) : Prop :=
 ∀ o p, l[i]? = some o → ps[i]? = some p → ∀ y k A, AP A → k ≤ ch.length → p.lo ≤ k → k ≤ p.hi → (∀ j ∈ p.fE, Φ j y) → (∀ j ∈ p.fE, ∀ B ∈ At j y, B ∈ A) →
  Step C l.toArray o (qI l E0 p y) (Lk k y ++ A) (fun v L' => ∃ A', AP A' ∧ Φ i (dG y i v) ∧ L'.Perm (Lk (if mem i ch then k + 1 else k) (dG y i v) ++ A') ∧ (∀ B ∈ A, B ∈ A') ∧ (∀ B ∈ At i (dG y i v), B ∈ A'))
theorem iz (m j : Nat) : (Array.replicate m false).getD j false = false := by
 rcases Nat.lt_or_ge j m with h | h
 ·simp [h]
 ·simp [h]
theorem qt {listed : Array Bool} {i : Nat} (h : listed.getD i true = false) : listed.getD i false = false := by
 rcases Nat.lt_or_ge i listed.size with h' | h'
 ·simp [h'] at h ⊢; exact h
 ·simp [Array.getElem?_eq_none h'] at h
theorem Env.get_mem {d : Nat} {v : Value} : ∀ {E : Env}, E.get d = some v → (d, v) ∈ E
 | [], h => by cases h
 | (k, u) :: E, h => by
  rw [Env.ic] at h
  by_cases e : k = d
  ·subst e; simp at h; simp [h]
  ·simp only [e, if_false] at h; exact List.mem_cons_of_mem _ (Env.get_mem h)
section
variable {C : Ctx} {l : List Oper} {E0 : Env} {ps : List dI} {ch : List Nat} {Φ : Nat → (Nat → Value) → Prop} {Lk At : Nat → (Nat → Value) → List ab} {AP : List ab → Prop}
def done (listed : Array Bool) (j : Nat) : Prop := listed.getD j false = true
structure Z1 (C : Ctx) (l : List Oper) (E0 : Env) (ps : List dI) (ch : List Nat) (Φ : Nat → (Nat → Value) → Prop) (Lk At : Nat → (Nat → Value) → List ab) (AP : List ab → Prop)
  (listed : Array Bool) (a : Act) (w : World) (y : Nat → Value) (A : List ab) (k : Nat) : Prop where
 size : listed.size = l.length
 xB : ∀ i, done listed i → ∀ j ∈ ef ps i, done listed j
 defers : a.defers = C.D
 tu : a.tmps.size = C.n
 Ck : ∀ i, done listed i → ∀ t, dK l i = some t → a.tmps[t]? = some (y i)
 BG : ∀ s v, E0.get s = some v → (∀ j, done listed j → dK l j ≠ some s) → a.tmps[s]? = some v
 Iq : ∀ i, done listed i → Φ i y
 ats : ∀ i, done listed i → ∀ B ∈ At i y, B ∈ A
 kle : k ≤ ch.length
 ap : AP A
 kdone : ∀ q c, q < k → ch[q]? = some c → done listed c
 kun : ∀ q c, k ≤ q → ch[q]? = some c → ¬ done listed c
 inv : Inv C.w0 (Lk k y ++ A) w
structure wy (C : Ctx) (l : List Oper) (ps : List dI) (ch : List Nat) (i : Nat) (o : Oper) (p : dI) : Prop where
 sel : ∀ cs b, o.op ≠ .select cs b
 Th : ∀ j ∈ ld o, j < i
 fE : ∀ j ∈ p.fE, j < i ∧ (j ∈ ld o ∨ ∃ k ∈ ld o, j ∈ ef ps k)
 iC : ∀ j ∈ p.iC, j ∈ p.fE
 kY : ∀ s ∈ p.kY, ∀ j, dK l j = some s → j = i ∨ i ∈ ef ps j
 lo : ∀ c ∈ ch.take p.lo, c ∈ p.fE
 Z7 : p.lo ≤ ch.length
 hi : ∀ c, ch[p.hi]? = some c → c = i ∨ i ∈ ef ps c
 dst : ∀ t, o.dst = some t → t < C.n ∧ ∀ j, j ≠ i → dK l j ≠ some t
 guard : ∀ j w, o.guard = some (j, w) → j ∈ p.iC
theorem rZ {i t : Nat} (h : dK l i = some t) : i < l.length := by
 unfold dK at h
 split at h
 ·rename_i o ho; exact (List.getElem?_eq_some_iff.1 ho).1
 ·cases h
theorem vX {i : Nat} (h : w6 C l ps ch i = true) : ∃ o p, l[i]? = some o ∧ ps[i]? = some p ∧ wy C l ps ch i o p := by
 unfold w6 at h
 split at h
 ·rename_i o p ho hp
  simp only [Bool.and_eq_true] at h
  obtain ⟨⟨⟨⟨⟨⟨⟨⟨⟨h1, h2⟩, h3⟩, h4⟩, h5⟩, h6⟩, h7⟩, h8⟩, h9⟩, h10⟩ := h
  refine ⟨o, p, ho, hp, ?_, ?_, ?_, ?_, ?_, ?_, Nat.le_of_ble_eq_true h7, ?_, ?_, ?_⟩
  ·intro cs b e; rw [e] at h1; cases h1
  ·intro j hj; exact fe (List.all_eq_true.1 h2 j hj)
  ·intro j hj
   have := List.all_eq_true.1 h3 j hj
   simp only [Bool.and_eq_true, Bool.or_eq_true] at this
   refine ⟨fe this.1, ?_⟩
   rcases this.2 with h | h
   ·exact .inl (mem_iff.1 h)
   ·obtain ⟨k, hk, hk2⟩ := List.any_eq_true.1 h
    exact .inr ⟨k, hk, mem_iff.1 hk2⟩
  ·intro j hj; exact mem_iff.1 (List.all_eq_true.1 h4 j hj)
  ·intro s hs j hj
   have := List.all_eq_true.1 (List.all_eq_true.1 h5 s hs) j (List.mem_range.2 (rZ hj))
   simp only [hj, Bool.or_eq_true] at this
   rcases this with (h | h) | h
   ·simp at h
   ·exact .inl (Nat.eq_of_beq_eq_true h)
   ·exact .inr (mem_iff.1 h)
  ·intro c hc; exact mem_iff.1 (List.all_eq_true.1 h6 c hc)
  ·intro c hc
   rw [hc] at h8
   simp only [Bool.or_eq_true] at h8
   rcases h8 with h | h
   ·exact .inl (Nat.eq_of_beq_eq_true h)
   ·exact .inr (mem_iff.1 h)
  ·intro t ht
   rw [ht] at h9
   simp only [Bool.and_eq_true] at h9
   refine ⟨fe h9.1, fun j hj e => ?_⟩
   have := List.all_eq_true.1 h9.2 j (List.mem_range.2 (rZ e))
   simp only [e, Bool.or_eq_true] at this
   rcases this with h | h
   ·exact hj (Nat.eq_of_beq_eq_true h)
   ·simp at h
  ·intro j w hg
   rw [hg] at h10
   exact mem_iff.1 h10
 ·cases h
theorem zm {i : Nat} {o : Oper} {listed : Array Bool} (ho : l[i]? = some o) (hr : i ∈ Region.ready .any l.toArray listed) : listed.getD i true = false ∧ ∀ j ∈ ld o, done listed j := by
 obtain ⟨h1, o', ho', hall⟩ := mem_ready.1 hr
 have : o' = o := by
  have h2 : l[i]? = some o' := by simpa using ho'
  rw [h2] at ho; exact Option.some.inj ho
 subst this
 refine ⟨h1, fun j hj => ?_⟩
 obtain ⟨e, he, hb⟩ := List.mem_filterMap.1 hj
 split at hb
 ·rename_i hbind
  cases hb
  exact hall e (by simpa using he) hbind
 ·cases hb
end
end Go.Sl
namespace Go.Sl
open Go.RowKit (Below)
def Z5 (l : List Oper) (E0 : Env) (p : dI) (V : List Value) : Env :=
  (p.iC.filterMap fun j => match dK l j with | some t => (match V[j]? with | some v => some (t, v) | none => none) | none => none) ++ p.kY.filterMap fun s => match E0.get s with | some v => some (s, v) | none => none
def GX (l : List Oper) (V : List Value) : Nat → Env → Env
  | 0, E => E
  | i + 1, E => match dK l i with | some t => (match V[i]? with | some v => (t, v) :: GX l V i E | none => GX l V i E) | none => GX l V i E
section
variable {C : Ctx} {E0 : Env} {Q : QT} {L : List ab}
def WW (l : List Oper) (E0 : Env) (p : dI) (i : Nat) (acc : List Value) : Env :=
  (p.iC.filterMap fun j => match dK l j with | some t => (match acc[i - 1 - j]? with | some v => some (t, v) | none => none) | none => none) ++ p.kY.filterMap fun s => match E0.get s with | some v => some (s, v) | none => none
def GA (l : List Oper) (n : Nat) (acc : List Value) : Nat → Env → Env
  | 0, E => E
  | i + 1, E => match dK l i with | some t => (match acc[n - 1 - i]? with | some v => (t, v) :: GA l n acc i E | none => GA l n acc i E) | none => GA l n acc i E
def Zi (C : Ctx) (l : List Oper) (E0 : Env) (ch : List Nat) (Ls : List (List ab)) : Nat → List Value → List Oper → List dI → (List Value → Prop) → Prop
  | _, acc, [], [], K => K acc
  | i, acc, o :: os, p :: ps, K => ∃ v, (∀ k L, p.lo ≤ k → k ≤ p.hi → Ls[k]? = some L → Step C l.toArray o (WW l E0 p i acc) L (fun v' L' => v' = v ∧ (if mem i ch then ∃ L'', Ls[k + 1]? = some L'' ∧ L'.Perm L'' else L'.Perm L))) ∧ Zi C l E0 ch Ls (i + 1) (v :: acc) os ps K
  | _, _, _, _, _ => False
section
variable {l : List Oper} {ch : List Nat} {Ls : List (List ab)} {i : Nat} {acc : List Value} {o : Oper} {os : List Oper} {ps : List dI} {v : Value} {K : List Value → Prop}
end
end
end Go.Sl

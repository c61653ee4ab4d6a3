/- Walks of functions that the law reaches, and what they lean on; no conditions. -/
import Derived.KernelRfl
import Derived.Calls
import Derived.Below
import Derived.Tactics
import Derived.Orders
import Derived.Laws.Cells
import Derived.Laws.Entries
import Derived.Laws.Wrap64
import Derived.Laws.AppendOwn
import Derived.Laws.MakeOwn
import Derived.Still
set_option linter.unusedVariables false
set_option linter.unusedSimpArgs false
set_option maxRecDepth 100000
namespace Go.Sl
variable {P Q : Prop}
theorem me(h:Q→P:=by exact fun h=>rT TT 6 rfl h):Q→P:=h
theorem Q4(h:Q→P:=by exact fun h=>rC TT 4 rfl h):Q→P:=h
theorem Qy(h:Q→P:=by exact fun h=>nV (fun y hA L => eA rfl rfl wI) h):Q→P:=h
theorem l7(h:Q→P:=by exact fun h=>nR (fun y FF hA => xI V.cV (own aB)) h):Q→P:=h
theorem xB(h:Q→P:=by exact fun h=>nR (fun y FF hA => xL V.s3 (own aB)) h):Q→P:=h
theorem vT(h:Q→P:=by exact fun h=>nE (fun y FF hA => dD (lQ (c := (I3)) (_) V.s3 rfl rfl rfl (by exact fI) (by omega) (by omega) rfl rfl) ⟨rfl, .refl _⟩) h):Q→P:=h
theorem Qb(h:Q→P:=by exact fun h=>cG h):Q→P:=h
theorem Qo(h:Q→P:=by exact fun h=>dR h):Q→P:=h
theorem Q7(h:Q→P:=by exact fun h=>oV (fY rfl) h):Q→P:=h
theorem Ap(h:Q→P:=by exact fun h=>oV (eA rfl rfl wI) h):Q→P:=h
theorem pc(h:Q→P:=by exact fun h=>oV (iO rfl) h):Q→P:=h
theorem QA(h:Q→P:=by exact fun h=>rC TT 10 rfl h):Q→P:=h
theorem Qa(h:Q→P:=by exact fun h=>rC TT 1 rfl h):Q→P:=h
theorem vz(h:Q→P:=by exact fun h=>jW TT 8 rfl (by omega) h):Q→P:=h
theorem rA(h:Q→P:=by exact fun h=>gV TT 9 rfl (by omega) h):Q→P:=h
theorem Dd(h:Q→P:=by exact fun h=>jW TT 12 rfl (by omega) h):Q→P:=h
theorem Qe(h:Q→P:=by exact fun h=>rC TT 5 rfl h):Q→P:=h
theorem o5(h:Q→P:=by exact fun h=>rC TT 11 rfl h):Q→P:=h
theorem D4(h:Q→P:=by exact fun h=>ei _ (fun y => rfl) rfl rfl rfl (fun y hA L => gO rfl (dD (fY rfl) ⟨rfl, rfl⟩)) (by intros; rfl) (by intro y y2 h; rfl) h):Q→P:=h
theorem U9(h:Q→P:=by exact fun h=>kG _ _ (fun y => rfl) rfl (fun y => rfl) rfl (fun y FF hA => gO rfl (dD (xI V.cV (own aB)) ⟨rfl, rfl⟩)) (by intros; rfl) (by intro y y2 h; rfl) h):Q→P:=h
theorem WG(h:Q→P:=by exact fun h=>kG _ _ (fun y => rfl) rfl (fun y => rfl) rfl (fun y FF hA => gO rfl (dD (xL V.s3 (own aB)) ⟨rfl, rfl⟩)) (by intros; rfl) (by intro y y2 h; rfl) h):Q→P:=h
theorem UY(h:Q→P:=by exact fun h=>ei _ (fun y => rfl) rfl rfl rfl (fun y hA L => gO rfl (dD (kV rfl rfl wI) ⟨rfl, rfl⟩)) (by intros; rfl) (by intro y y2 h; rfl) h):Q→P:=h
theorem Vz(h:Q→P:=by exact fun h=>ei _ (fun y => rfl) rfl rfl rfl (fun y hA L => gO rfl (dD (dV rfl rfl) ⟨rfl, rfl⟩)) (by intros; rfl) (by intro y y2 h; rfl) h):Q→P:=h
theorem UQ(h:Q→P:=by exact fun h=>bE _ (.cons (d := 0) rfl (.cons (d := 1) rfl (.cons (d := 2) rfl (.cons (d := 3) rfl (.cons (d := 8) rfl (.cons (d := 9) rfl (.cons (d := 34) rfl (.nil _)))))))) h):Q→P:=h
theorem ve(h:Q→P:=by exact fun h=>nV (fun y hA L => kV rfl rfl wI) h):Q→P:=h
theorem Eh(h:Q→P:=by exact fun h=>jW TT 11 rfl (by omega) h):Q→P:=h
theorem jl(h:Q→P:=by exact fun h=>ei _ (fun y => rfl) rfl rfl rfl (fun y hA L => La rfl rfl ⟨rfl, rfl⟩) (by intros; rfl) (by intro y y2 h; rfl) h):Q→P:=h
theorem Eu(h:Q→P:=by exact fun h=>oV (df V.u3 Tryz.underlying52 rfl (Tm (by omega) (by omega))) h):Q→P:=h
theorem IK(h:Q→P:=by exact fun h=>oV (dX rfl rfl (by decide) (Xb (by omega))) h):Q→P:=h
theorem Ik(h:Q→P:=by exact fun h=>oV (df V.Zi Tryz.underlying3 rfl wI) h):Q→P:=h
theorem Qi(h:Q→P:=by exact fun h=>rO TT 3 rfl h):Q→P:=h
theorem NV(h:Q→P:=by exact fun h=>bo (M := Row I3 p n cap (l) :: S :: F) (fun _ _ h => h) h):Q→P:=h
theorem C8(h:Q→P:=by exact fun h=>jW TT 6 rfl (by omega) h):Q→P:=h
theorem Qs(h:Q→P:=by exact fun h=>rC TT 7 rfl h):Q→P:=h
theorem Qc(h:Q→P:=by exact fun h=>rC TT 6 rfl h):Q→P:=h
theorem Q6(h:Q→P:=by exact fun h=>rO TT 2 rfl h):Q→P:=h
theorem Qm(h:Q→P:=by exact fun h=>rL TT 6 rfl h):Q→P:=h
theorem Q1(h:Q→P:=by exact fun h=>rO TT 6 rfl h):Q→P:=h
theorem Qk(h:Q→P:=by exact fun h=>rO TT 8 rfl h):Q→P:=h
theorem kC(h:Q→P:=by exact fun h=>rC TT 9 rfl h):Q→P:=h
theorem QQ(h:Q→P:=by exact fun h=>gV TT 8 rfl (by omega) h):Q→P:=h
theorem QO(h:Q→P:=by exact fun h=>rT TT 5 rfl h):Q→P:=h
theorem QH(h:Q→P:=by exact fun h=>rT TT 8 rfl h):Q→P:=h
theorem Oa(h:Q→P:=by exact fun h=>nR (fun y FF hA => aA V.nz rfl aB rfl) h):Q→P:=h
theorem QD(h:Q→P:=by exact fun h=>rT TT 2 rfl h):Q→P:=h
theorem QI(h:Q→P:=by exact fun h=>rO TT 15 rfl h):Q→P:=h
theorem AM(h:Q→P:=by exact fun h=>gV TT 10 rfl (by omega) h):Q→P:=h
theorem Q8(h:Q→P:=by exact fun h=>rO TT 4 rfl h):Q→P:=h
theorem QG(h:Q→P:=by exact fun h=>rO TT 12 rfl h):Q→P:=h
theorem Q0(h:Q→P:=by exact fun h=>dg rfl h):Q→P:=h
theorem Qd(h:Q→P:=by exact fun h=>rO TT 7 rfl h):Q→P:=h
theorem Qn(h:Q→P:=by exact fun h=>rO TT 9 rfl h):Q→P:=h
theorem tg(h:Q→P:=by exact fun h=>jE rfl (cs := [_]) rfl rfl h):Q→P:=h
theorem Iw(h:Q→P:=by exact fun h=>oV (jZ (ty' := 0) Tryz.underlying47 rfl) h):Q→P:=h
theorem Bc(h:Q→P:=by exact fun h=>oV (aA V.nz rfl dW rfl) h):Q→P:=h
theorem Q3(h:Q→P:=by exact fun h=>rO TT 5 rfl h):Q→P:=h
theorem Q3T(h:Q→P:=by exact fun h=>nV (fun y hA L => fQ (((I3.g ls (k : Int))).toNat) (by omega) V.qZ rfl rfl (by omega)) h):Q→P:=h
theorem Ww(h:Q→P:=by exact fun h=>eh (c := (I3)) V.cV V.z3 rfl rfl rfl rfl aw (own aB) (by omega) rfl h):Q→P:=h
theorem zF(h:Q→P:=by exact fun h=>gV TT 7 rfl (by omega) h):Q→P:=h
theorem Q5(h:Q→P:=by exact fun h=>rC TT 3 rfl h):Q→P:=h
theorem Q9(h:Q→P:=by exact fun h=>rC TT 2 rfl h):Q→P:=h
theorem ny(h:Q→P:=by exact fun h=>gV TT 2 rfl (by omega) h):Q→P:=h
theorem QV(h:Q→P:=by exact fun h=>rT TT 9 rfl h):Q→P:=h
theorem ql(h:Q→P:=by exact fun h=>BX (fun h hh => hh) h):Q→P:=h
theorem pY(h:Q→P:=by exact fun h=>nR (fun y FF hA => aA V.jV rfl aB rfl) h):Q→P:=h
theorem wH(h:Q→P:=by exact fun h=>nV (fun y hA L => jZ (ty' := 0) Tryz.underlying22 rfl) h):Q→P:=h
theorem SG(h:Q→P:=by exact fun h=>nV (fun y hA L => gB rfl rfl wI) h):Q→P:=h
theorem Qv(h:Q→P:=by exact fun h=>nR (fun y FF hA => aA V.s3 rfl aB rfl) h):Q→P:=h
theorem JM(h:Q→P:=by exact fun h=>bE _ (.cons (d := 2) rfl (.nil _)) h):Q→P:=h
theorem UL(h:Q→P:=by exact fun h=>bo (M := ai b 236 [.slice p1 B.length c1, .slice p2 out.length c2, .int .i64 (at_ : Int), .int .i64 free] :: Row U5 p1 B.length c1 B :: Row U5 p2 out.length c2 out :: F) (fun _ _ h => h) h):Q→P:=h
theorem Nf(h:Q→P:=by exact fun h=>au [(0, _), (1, _)] Tryz.func92 rfl Tryz.ntmps92 rfl rfl h):Q→P:=h
theorem QE(h:Q→P:=by exact fun h=>oV (bV (dV rfl rfl) (by omega)) h):Q→P:=h
theorem Qr(h:Q→P:=by exact fun h=>oV (bV (dz rfl rfl) (by omega)) h):Q→P:=h
theorem Mj(h:Q→P:=by exact fun h=>aj (ML b B at_ out free hl ha) V.Ms  rfl (aq .nil) rfl h):Q→P:=h
theorem Qu(h:Q→P:=by exact fun h=>oV (cQ (dz rfl rfl) (by omega)) h):Q→P:=h
theorem U1(h:Q→P:=by exact fun h=>nV (fun y hA L => jY rfl rfl (by omega) (rZ (by omega) (by omega) (by omega))) h):Q→P:=h
theorem DG(h:Q→P:=by exact fun h=>nR (fun y FF hA => xI V.bN (own aB)) h):Q→P:=h
theorem Ic(h:Q→P:=by exact fun h=>nR (fun y FF hA => xL V.s5 (own aB)) h):Q→P:=h
theorem MU(h:Q→P:=by exact fun h=>nV (fun y hA L => lJ rfl rfl (by omega) (oe (by omega))) h):Q→P:=h
theorem Qf(h:Q→P:=by exact fun h=>oV (aA V.s3 rfl aB rfl) h):Q→P:=h
theorem tt(h:Q→P:=by exact fun h=>gV TT 4 rfl (by omega) h):Q→P:=h
theorem nc(h:Q→P:=by exact fun h=>cy (dK V.s3 rfl rfl rfl (by exact fI) (by exact Nat.le_of_ble_eq_true rfl) rfl) h):Q→P:=h
theorem QU(h:Q→P:=by exact fun h=>oV (df V.u5 Tryz.underlying3 rfl wI) h):Q→P:=h
theorem C3(h:Q→P:=by exact fun h=>oV (cY (v := .bool false) (uZ Tryz.underlying219 rfl rfl) rfl) h):Q→P:=h
theorem Qg(h:Q→P:=by exact fun h=>rO TT 10 rfl h):Q→P:=h
theorem V6(h:Q→P:=by exact fun h=>oV (cn V.Ut V.z156 rfl (cs := [.slice q B.length c, .slice none 0 0, .int .i64 0, .int .i64 0]) rfl) h):Q→P:=h
theorem UW(h:Q→P:=by exact fun h=>jE rfl (cs := [.slice q B.length c, .slice none 0 0, .int .i64 0, .int .i64 0]) rfl rfl h):Q→P:=h
theorem UU(h:Q→P:=by exact fun h=>oV (iQ (r := 2 * ag.acc B at_ m) rfl rfl (by decide) (ag.On hac0.1 (by omega))) h):Q→P:=h
theorem NJ(h:Q→P:=by exact fun h=>oV (fQ (m + 1) rfl V.qZ rfl rfl (by omega)) h):Q→P:=h
theorem Sk(h:Q→P:=by exact fun h=>oV (nT ((m : Int) + 1) V.s3 rfl dm (by (simp only [List.length_cons, List.length_nil]; omega)) (by omega) (by omega)) h):Q→P:=h
theorem xb(h:Q→P:=by exact fun h=>gV TT 5 rfl (by omega) h):Q→P:=h
theorem vE(h:Q→P:=by exact fun h=>oV (aA V.jV rfl aB rfl) h):Q→P:=h
theorem Pl(h:Q→P:=by exact fun h=>eh (c := (U5)) V.bN V.z5 rfl rfl rfl rfl bg (own aB) (by omega) rfl h):Q→P:=h
theorem US(h:Q→P:=by exact fun h=>cy (dK V.jV rfl rfl rfl (by exact zM) (by exact Nat.le_of_ble_eq_true rfl) rfl) h):Q→P:=h
theorem D7(h:Q→P:=by exact fun h=>aj (nC 4) V.kJ  rfl .nil rfl h):Q→P:=h
theorem zH(h:Q→P:=by exact fun h=>da (kN 4) V.kJ rfl .nil h):Q→P:=h
theorem o8(h:Q→P:=by exact fun h=>oV (jY rfl rfl (by omega) (rZ (by omega) (by omega) (by omega))) h):Q→P:=h
theorem oT(h:Q→P:=by exact fun h=>oV (aA V.s4 rfl aB rfl) h):Q→P:=h
theorem Am(h:Q→P:=by exact fun h=>cy (dK V.s4 rfl rfl rfl (by exact fI) (by exact Nat.le_of_ble_eq_true rfl) rfl) h):Q→P:=h
theorem pL(h:Q→P:=by exact fun h=>oV (aA V.fW rfl aB rfl) h):Q→P:=h
theorem VD(h:Q→P:=by exact fun h=>cy (dK V.yx rfl rfl rfl (by exact HZ) (by exact Nat.le_of_ble_eq_true rfl) rfl) h):Q→P:=h
theorem mT(h:Q→P:=by exact fun h=>nG V.gu h):Q→P:=h
theorem mM(h:Q→P:=by exact fun h=>nR (fun y FF hA => aA V.fW rfl aB rfl) h):Q→P:=h
theorem Nd(h:Q→P:=by exact fun h=>aU (.bool true) _ _ (fun y => rfl) rfl (fun y => rfl) (fun y FF hA => (cE.fact (hA 4 (by decide)) (q := fun _ => False) rfl).elim) h):Q→P:=h
theorem ZY(h:Q→P:=by exact fun h=>nE (fun y FF hA => aV (Post := [LW bl B (a + 5) [] 0]) (eN bl B a [] 0 5 hl hB (by omega) (by omega)) V.eg rfl (aq .nil) (fun v G h => by rcases h with ⟨rfl, rfl⟩; exact ⟨rfl, .refl _⟩)) h):Q→P:=h
theorem Q1w(h:Q→P:=by exact fun h=>aU (.bool true) _ _ (fun y => rfl) rfl (fun y => rfl) (fun y FF hA => (cE.fact (hA 10 (by decide)) (q := fun _ => False) rfl).elim) h):Q→P:=h
theorem ZT(h:Q→P:=by exact fun h=>nE (fun y FF hA => aV (Post := [LW bl B (a + 10) [] 0]) (eN bl B (a + 5) [] 0 5 hl hB (by omega) (by omega)) V.eg rfl (aq .nil) (fun v G h => by rcases h with ⟨rfl, rfl⟩; exact ⟨rfl, .refl _⟩)) h):Q→P:=h
theorem Z8(h:Q→P:=by exact fun h=>aU (.bool true) _ _ (fun y => rfl) rfl (fun y => rfl) (fun y FF hA => (cE.fact (hA 16 (by decide)) (q := fun _ => False) rfl).elim) h):Q→P:=h
theorem yI(h:Q→P:=by exact fun h=>oV (cQ (ga rfl rfl) (by omega)) h):Q→P:=h
theorem JJ(h:Q→P:=by exact fun h=>oV (aA V.fW rfl dW rfl) h):Q→P:=h
theorem Yy(h:Q→P:=by exact fun h=>cy (lQ (c := (I3)) (_) V.s3 rfl rfl rfl (by exact sR) (by omega) (by omega) rfl rfl) h):Q→P:=h
theorem Q44(h:Q→P:=by exact fun h=>aj ((mS bc (ab.bR B a) bl B x [] 0 hy hl hB hx).ok hs) V.qu  rfl (.cons aw (.cons bg .nil)) rfl h):Q→P:=h
theorem HY(h:Q→P:=by exact fun h=>oV (bV (ga rfl rfl) (by omega)) h):Q→P:=h
theorem Q39(h:Q→P:=by exact fun h=>wg (p := pr) (n := l.length) (cap := cr) (l := l) (c := I3) aB fun hcap => h):Q→P:=h
theorem Q3a(h:Q→P:=by exact fun h=>nV (fun y hA L => iI (ab.hL B a) _ V.cV rfl ⟨_, rfl⟩ rfl (by omega) (by omega)) h):Q→P:=h
theorem Q45(h:Q→P:=by exact fun h=>fc (fun y v => .pointer (some ⟨fe v, 0, none⟩)) (fun y v => True) _ _ (fun y v => [HC (fe v) (l.take (ab.hL B a)), Row I3 pr l.length cr l]) _ (fun y => rfl) (fun y => rfl) (fun y => rfl) (fun y => rfl) (fun y FF hA => n7 (A := fun z => HC z (l.take (ab.hL B a))) (Post := [Row I3 pr l.length cr l]) (kP pr (ab.hL B a) cr (l.take (ab.hL B a)) (Row I3 pr l.length cr l) (by (rw [List.length_take]; omega)) (fun _ _ hh => oD rfl (by omega) hh) hc1) V.mZ rfl (aq .nil)) (by intros; rfl) (by intros; rfl) (by intros; rfl) (by intro y y2 h; simp only [h 5 (.inl rfl)]) (by intro y y2 h; rfl) h):Q→P:=h
theorem Z0(h:Q→P:=by exact fun h=>nV (fun y hA L => eb (ab.hL B a) _ _ V.cV rfl ⟨_, rfl⟩ ⟨rfl, rfl⟩ rfl (by omega) (by omega) (by omega)) h):Q→P:=h
theorem Q46(h:Q→P:=by exact fun h=>nE (fun y FF hA => dD (dK V.yx rfl rfl rfl (by exact fI) (by exact Nat.le_of_ble_eq_true rfl) rfl) ⟨rfl, .refl _⟩) h):Q→P:=h
theorem Wz(h:Q→P:=by exact fun h=>aU (.bool true) _ _ (fun y => rfl) rfl (fun y => rfl) (fun y FF hA => (cE.fact (hA 9 (by decide)) (q := fun _ => False) rfl).elim) h):Q→P:=h
theorem ZX(h:Q→P:=by exact fun h=>aU (.bool true) _ _ (fun y => rfl) rfl (fun y => rfl) (fun y FF hA => (cE.fact (hA 5 (by decide)) (q := fun _ => False) rfl).elim) h):Q→P:=h
theorem Iq(h:Q→P:=by exact fun h=>oV (cQ (dV rfl rfl) hq) h):Q→P:=h
theorem Qp(h:Q→P:=by exact fun h=>rO TT 11 rfl h):Q→P:=h
theorem Q47(h:Q→P:=by exact fun h=>nV (fun y hA L => iQ (r := (4 + sy % 4) * 2 ^ ab.fz sy) rfl rfl (by omega) hsh.1) h):Q→P:=h
theorem U0(h:Q→P:=by exact fun h=>aU (.bool true) _ _ (fun y => rfl) rfl (fun y => rfl) (fun y FF hA => (cE.fact (hA 11 (by decide)) (q := fun _ => False) rfl).elim) h):Q→P:=h
theorem IB(h:Q→P:=by exact fun h=>nR (fun y FF hA => aA V.yx rfl aB rfl) h):Q→P:=h
theorem V0(h:Q→P:=by exact fun h=>aU (.bool true) _ _ (fun y => rfl) rfl (fun y => rfl) (fun y FF hA => (cE.fact (hA 8 (by decide)) (q := fun _ => False) rfl).elim) h):Q→P:=h
theorem WC(h:Q→P:=by exact fun h=>nV (fun y hA L => iQ (r := (2 + sy % 2) * 2 ^ ab.fX sy) rfl rfl (by omega) hsh.1) h):Q→P:=h
theorem vy(h:Q→P:=by exact fun h=>cy (dK V.s4 rfl rfl rfl (by exact sR) (by exact Nat.le_of_ble_eq_true rfl) rfl) h):Q→P:=h
theorem QW(h:Q→P:=by exact fun h=>oV (aA V.s3 rfl dm rfl) h):Q→P:=h
theorem Vd(h:Q→P:=by exact fun h=>nE (fun y FF hA => aV (Post := [LW bl B ((ab.cI (s.at_ + 3)) + 16) [] 0]) (eN bl B (ab.cI (s.at_ + 3)) [] 0 16 hl hB (by omega) (by omega)) V.eg rfl (aq .nil) (fun v G h => by rcases h with ⟨rfl, rfl⟩; exact ⟨rfl, .refl _⟩)) h):Q→P:=h
theorem Wx(h:Q→P:=by exact fun h=>oV (qS (r := (IntKind.i64.wrap ((BitVec.ofInt IntKind.i64.bits (ag.aK B (ab.cI (s.at_ + 3)) 16) ^^^ BitVec.ofInt IntKind.i64.bits (ag.aK B ((ab.cI (s.at_ + 3)) + 16) 16)).toNat : Int))) rfl rfl rfl) h):Q→P:=h
theorem nu(h:Q→P:=by exact fun h=>oV (df V.u3 Tryz.underlying5 rfl (wk (by omega) (by omega))) h):Q→P:=h
theorem UH(h:Q→P:=by exact fun h=>oV (kV (r := sy - 257) rfl rfl (by rw [show sy - 256 - 1 = sy - 257 from by omega]; exact gl (by omega) (by omega))) h):Q→P:=h
theorem CL(h:Q→P:=by exact fun h=>gV TT 3 rfl (by omega) h):Q→P:=h
theorem Wy(h:Q→P:=by exact fun h=>bo (aM (aO .nil) .refl (fun w0 h hh => cJ (s := s) rfl hh)) h):Q→P:=h
theorem VP(h:Q→P:=by exact fun h=>bo (aM (.cons bg (.cons bg .nil)) .refl (fun w0 h hh => cJ (s := s) rfl hh)) h):Q→P:=h
theorem Ve(h:Q→P:=by exact fun h=>aj (eN bl B s.at_ [] 0 8 hl hB (by omega) (by omega)) V.eg  rfl (.cons bg .nil) rfl h):Q→P:=h
theorem VG(h:Q→P:=by exact fun h=>cy (dK V.DC rfl rfl rfl (.tail .head) (by exact Nat.le_of_ble_eq_true rfl) rfl) h):Q→P:=h
theorem Wd(h:Q→P:=by exact fun h=>cy (dK V.DC rfl rfl rfl .head (by exact Nat.le_of_ble_eq_true rfl) rfl) h):Q→P:=h
theorem WL(h:Q→P:=by exact fun h=>ye (L' := Pre ++ (ai b2 27 [.int .i64 0] :: F)) List.perm_middle.symm h):Q→P:=h
theorem vj(h:Q→P:=by exact fun h=>lj cW (fun h hh => um hh) h):Q→P:=h
theorem sI(h:Q→P:=by exact fun h=>BX (fun h hh => re hh) h):Q→P:=h
theorem UO(h:Q→P:=by exact fun h=>bE _ (.cons (d := 0) rfl (.cons (d := 1) rfl (.cons (d := 2) rfl (.cons (d := 18) rfl (.nil _))))) h):Q→P:=h
theorem Wu(h:Q→P:=by exact fun h=>bo (M := ai b 223 [.pointer (some ⟨bl, 0, none⟩), .int .i64 sz, .int .i64 mo, .slice po s.out.length co, .bool s.ended, .int .i64 0, .int .i64 s.kind, .int .i64 (s.left : Int), .bool s.last, li, di, .int .i64 (s.ax : Int), .int .i64 (s.bA : Int)] :: Row U5 po s.out.length co s.out :: LW bl B s.at_ [] 0 :: CD li di s :: ai bm 204 [.pointer (some ⟨b, 0, none⟩)] :: ai bw 3 [.int .i64 (w : Int)] :: ai bn 3 [.int .i64 n] :: F) (fun _ _ h => h) h):Q→P:=h
theorem VA(h:Q→P:=by exact fun h=>kG _ _ (fun y => rfl) rfl (fun y => rfl) rfl (fun y FF hA => gO rfl (dD (aA V.s3 rfl aB rfl) ⟨rfl, rfl⟩)) (by intros; rfl) (by intro y y2 h; rfl) h):Q→P:=h
theorem We(h:Q→P:=by exact fun h=>bo ((aM (aO .nil) .refl (fun w0 h hh => cJ (s := s) rfl hh)).trans (aM (fp .nil) .refl (fun w0 h hh => fg (s := s) hh))) h):Q→P:=h
theorem QJ(h:Q→P:=by exact fun h=>oV (aA V.su rfl dm rfl) h):Q→P:=h
theorem Im(h:Q→P:=by exact fun h=>au [(0, _), (1, _)] Tryz.func147 rfl Tryz.ntmps147 rfl rfl h):Q→P:=h
theorem AW(h:Q→P:=by exact fun h=>oV (cY (v := .bool false) (uZ Tryz.underlying204 rfl rfl) rfl) h):Q→P:=h
theorem Ed(h:Q→P:=by exact fun h=>oV (aA V.s4 rfl dW rfl) h):Q→P:=h
theorem oX(h:Q→P:=by exact fun h=>oV (jZ (ty' := 0) Tryz.underlying22 rfl) h):Q→P:=h
theorem VZ(h:Q→P:=by exact fun h=>bo (Sl.Sub.trans (aM (.cons c9 (.cons c9 .nil)) .refl (fun w0 h hh => cJ (s := s) rfl hh)) (aM (aq (.cons c9 (.cons c9 .nil))) .refl (fun w0 h hh => fg (s := s) hh))) h):Q→P:=h
theorem IT(h:Q→P:=by exact fun h=>lj cW (fun h hh => A7 hh) h):Q→P:=h
theorem IN(h:Q→P:=by exact fun h=>oV (aA V.DC rfl aB rfl) h):Q→P:=h
theorem RZ(h:Q→P:=by exact fun h=>au [(0, _)] Tryz.func148 rfl Tryz.ntmps148 rfl rfl h):Q→P:=h
theorem Sg(h:Q→P:=by exact fun h=>aj (yT b bl sz mo B s) V.u4  rfl (aq .nil) rfl h):Q→P:=h
theorem ru(h:Q→P:=by exact fun h=>iT (Row U5 none 0 0 []) (Row.nil _ _ _) h):Q→P:=h
theorem vD(h:Q→P:=by exact fun h=>oV (aA V.jV rfl dm rfl) h):Q→P:=h
theorem Pu(h:Q→P:=by exact fun h=>au [(0, _)] Tryz.func149 rfl Tryz.ntmps149 rfl rfl h):Q→P:=h
theorem YX(h:Q→P:=by exact fun h=>oV (cn V.TI V.XD rfl (cs := [_, _, _, _, _, _, _, _, _, _, _, _, _]) rfl) h):Q→P:=h
theorem mg(h:Q→P:=by exact fun h=>oV (cQ (dV rfl rfl) (by omega)) h):Q→P:=h
theorem Qq(h:Q→P:=by exact fun h=>rO TT 13 rfl h):Q→P:=h
theorem I2(h:Q→P:=by exact fun h=>oV (xI V.bN (by exact bM hR aB)) h):Q→P:=h
theorem I9(h:Q→P:=by exact fun h=>oV (xL V.s5 (by exact bM hR aB)) h):Q→P:=h
theorem Ri(h:Q→P:=by exact fun h=>oV (df V.u5 Tryz.underlying76 rfl (aH.wrap32 (by omega) (by omega))) h):Q→P:=h
theorem Jz(h:Q→P:=by exact fun h=>oV (eA rfl rfl (aH.wrap32 (by omega) (by omega))) h):Q→P:=h
theorem Wm(h:Q→P:=by exact fun h=>oV (lJ (r := ((aH.eR (B.take i)).1 + (U5.g B (i : Int))) % 65521) rfl rfl (by omega) (oe (by omega))) h):Q→P:=h
theorem Vp(h:Q→P:=by exact fun h=>oV (lJ (r := ((aH.eR (B.take i)).2 + ((aH.eR (B.take i)).1 + (U5.g B (i : Int))) % 65521) % 65521) rfl rfl (by omega) (oe (by omega))) h):Q→P:=h
theorem U7(h:Q→P:=by exact fun h=>oV (iQ (r := (aH.eR B).2 * 65536) rfl rfl (by decide) (aH.Xl (n := 16) rfl (by decide) rfl (by omega) (by omega))) h):Q→P:=h
theorem VJ(h:Q→P:=by exact fun h=>oV (qb (r := (aH.eR B).2 * 65536 + (aH.eR B).1) rfl rfl (aH.W9 (u := (aH.eR B).2) (n := 16) rfl (by omega) (by omega) (by omega))) h):Q→P:=h
theorem tl(h:Q→P:=by exact fun h=>XT V.mixed (by kernel_rfl) h):Q→P:=h
theorem Dp(h:Q→P:=by exact fun h=>oV (kt (r := (U5.g B 0) % 16) rfl rfl (aH.S0 hv)) h):Q→P:=h
theorem QB(h:Q→P:=by exact fun h=>oV (bV (dE rfl rfl) (by omega)) h):Q→P:=h
theorem Qz(h:Q→P:=by exact fun h=>oV (cQ (dE rfl rfl) (by omega)) h):Q→P:=h
theorem Jh(h:Q→P:=by exact fun h=>oV (dX (r := (U5.g B 0) / 16) rfl rfl (by decide) (aH.Zb hv.1)) h):Q→P:=h
theorem NA(h:Q→P:=by exact fun h=>oV (iQ (r := (U5.g B 0) * 256) rfl rfl (by decide) (aH.Gz (n := 8) rfl (by decide) rfl (by omega) (by omega))) h):Q→P:=h
theorem Mz(h:Q→P:=by exact fun h=>oV (qb (r := (U5.g B 0) * 256 + (U5.g B 1)) rfl rfl (aH.uz (u := (U5.g B 0)) (n := 8) rfl hv.1 (by omega) (by omega))) h):Q→P:=h
theorem OZ(h:Q→P:=by exact fun h=>oV (lJ (r := ((U5.g B 0) * 256 + (U5.g B 1)) % 31) rfl rfl (by omega) (oe (by omega))) h):Q→P:=h
theorem QK(h:Q→P:=by exact fun h=>rO TT 14 rfl h):Q→P:=h
theorem ID(h:Q→P:=by exact fun h=>oV (bV (cL rfl rfl) (fun h => h he)) h):Q→P:=h
theorem VR(h:Q→P:=by exact fun h=>wN [pz 0 [] [9], pz 1 [0] [], pz 0 [] [6], pz 4 [2] [], pz 15 [1, 3] [], pz 31 [4] []] [⟨fun y => Row U5 q22 x.length c22 x, none, some 3, []⟩, ⟨fun y => R, none, none, [1]⟩, ⟨fun y => Row U5 q22 x.length c22 x, some 3, none, []⟩] F V.mixed h):Q→P:=h
theorem Wf(h:Q→P:=by exact fun h=>nR (fun y FF hA => tN (T := 5) Tryz.underlying22 Tryz.underlying5 Tryz.underlying9 rfl (by exact bM hDn aB)) h):Q→P:=h
theorem UF(h:Q→P:=by exact fun h=>nE (fun y FF hA => aV (Post := [Row U5 q22 x.length c22 x]) (TW q22 c22 x (Row U5 q22 x.length c22 x) (fun _ _ hh => hh.rd) (by omega) hxB) V.W6 rfl (aq .nil) (fun v G h => by rcases h with ⟨rfl, rfl⟩; exact ⟨rfl, .refl _⟩)) h):Q→P:=h
theorem V2(h:Q→P:=by exact fun h=>oV (dX (r := (aa.fO k x) / 2) rfl rfl (by decide) (aa.lI (n := 1) rfl (by decide) rfl)) h):Q→P:=h
theorem vv(h:Q→P:=by exact fun h=>oV (df V.Av Tryz.underlying5 rfl (aa.fm _)) h):Q→P:=h
theorem UX(h:Q→P:=by exact fun h=>oV (xh (r := 4294967295 - (aa.fo (4294967295 - s) B)) rfl rfl (aa.Ca (by omega))) h):Q→P:=h
theorem WD(h:Q→P:=by exact fun h=>F9 Tryz.underlying9 Tryz.underlying22 Tryz.underlying5 rfl (aa.bu hk) rfl h):Q→P:=h
theorem QM(h:Q→P:=by exact fun h=>oV (cQ (Cb rfl rfl) (by omega)) h):Q→P:=h
theorem m9(h:Q→P:=by exact fun h=>oV (bV (Cb rfl rfl) (by omega)) h):Q→P:=h
theorem IG(h:Q→P:=by exact fun h=>oV (Sf Tryz.underlying9 rfl (j8 kk)) h):Q→P:=h
theorem O3(h:Q→P:=by exact fun h=>oV (Ac i Tryz.underlying9 rfl rfl (aa.bu hk) rfl (by omega)) h):Q→P:=h
theorem yo(h:Q→P:=by exact fun h=>cS V.DP rfl h):Q→P:=h
theorem ER(h:Q→P:=by exact fun h=>oV (cn V.MQ V.DP rfl (cs := [.string ByteArray.empty, .slice none 0 0]) rfl) h):Q→P:=h
theorem rG(h:Q→P:=by exact fun h=>cy (bb V.o0 rfl rfl (us := [_, _]) rfl rfl (by exact fI) (by exact Nat.le_of_ble_eq_true rfl) rfl) h):Q→P:=h
theorem Ds(h:Q→P:=by exact fun h=>wN [pz 0 [] [0], pz 1 [0] [], pz 0 [] [0], pz 4 [2] [], pz 12 [3] [], pz 3 [1] [], pz 63 [4] []] [⟨fun y => ai b4 88 [.string ByteArray.empty, .slice none 0 0], none, none, []⟩, ⟨fun y => ai bt 175 (CA [] .u32 aa.eL []), none, none, []⟩, ⟨fun y => R, none, none, [1, 4]⟩] F V.mixed h):Q→P:=h
theorem CV(h:Q→P:=by exact fun h=>nE (fun y FF hA => aV (Post := [R]) (x9 p c B R hR hB (by omega) hcap) V.Hm rfl (aq .nil) (fun v G h => by rcases h with ⟨rfl, rfl⟩; exact ⟨rfl, .refl _⟩)) h):Q→P:=h
theorem E8(h:Q→P:=by exact fun h=>nV (fun y hA L => eb 4 8 _ V.bN rfl ⟨_, rfl⟩ ⟨_, rfl⟩ rfl (by omega) (by omega) (by omega)) h):Q→P:=h
theorem Er(h:Q→P:=by exact fun h=>nR (fun y FF hA => tN (T := 5) Tryz.underlying22 Tryz.underlying5 Tryz.underlying9 rfl (by exact bM hS aB)) h):Q→P:=h
theorem Dq(h:Q→P:=by exact fun h=>bE _ (.cons (d := 0) rfl (.cons (d := 1) rfl (.cons (d := 4) rfl (.cons (d := 7) rfl (.cons (d := 8) rfl (.nil _)))))) h):Q→P:=h
theorem EK(h:Q→P:=by exact fun h=>bo (M := ai b4 88 [.string ByteArray.empty, .slice none 0 0] :: ai bt 175 (CA [] .u32 aa.eL []) :: R :: F) (fun _ _ h => h) h):Q→P:=h
theorem Sv(h:Q→P:=by exact fun h=>aj (lN ((B.drop 4).take 4) (aa.fR (aa.dT hB 4) 4) (by rw [aa.j0 (by omega)]; decide) true (decide_eq_true hnm).symm) V.ui  rfl .nil rfl h):Q→P:=h
theorem x8(h:Q→P:=by exact fun h=>gV TT 12 rfl (by omega) h):Q→P:=h
theorem I6(h:Q→P:=by exact fun h=>oV (cY (v := .int .i64 ((8 + n : Nat) : Int)) (eA rfl rfl wI) (by congr 1)) h):Q→P:=h
theorem Vq(h:Q→P:=by exact fun h=>oV (eb 8 (8 + n) c V.bN rfl ⟨_, rfl⟩ ⟨_, rfl⟩ rfl (by omega) (by omega) (by omega)) h):Q→P:=h
theorem WH(h:Q→P:=by exact fun h=>oV (eb (8 + n) B.length c V.bN rfl ⟨_, rfl⟩ ⟨rfl, rfl⟩ rfl (by omega) (by omega) (by omega)) h):Q→P:=h
theorem V4(h:Q→P:=by exact fun h=>aj (EG (dq p (8 + n) c 1) (c - (8 + n)) (B.length - (8 + n)) (B.drop (8 + n)) R hXn List.length_drop hb8 (by omega) (by omega)) V.Hm  rfl (.cons bg .nil) rfl h):Q→P:=h
theorem Wc(h:Q→P:=by exact fun h=>aj (HD bt ((B.drop 4).take 4) hk4 (by rw [aa.j0 (by omega)]; decide) (dq p 8 c 1) (c - 8) (8 + n - 8) ((B.drop 8).take n) R hX8 (by rw [aa.j0 (by omega)]; omega) (by omega) D1) V.Xe  rfl (.cons bg (aq .nil)) rfl h):Q→P:=h
theorem Nc(h:Q→P:=by exact fun h=>aj (HL b26 pz cz Z.length Z R hZR rfl (by omega) hZB hZc x hf) V.VM  rfl (.cons bg (.cons bg .nil)) rfl h):Q→P:=h
theorem MV(h:Q→P:=by exact fun h=>oV (bV (cL rfl rfl) (fun h => h rfl)) h):Q→P:=h
theorem Se(h:Q→P:=by exact fun h=>oV (eb (12 + x.d.length) Z.length cz V.bN rfl ⟨_, rfl⟩ ⟨rfl, rfl⟩ rfl (by omega) (by omega) (by omega)) h):Q→P:=h
theorem E4(h:Q→P:=by exact fun h=>oV (dv V.o0 rfl aB (vs := [_, _]) rfl rfl) h):Q→P:=h
theorem O9(h:Q→P:=by exact fun h=>cH (CK) [(Ce.mk x.k q35 c35 x.d)] V.sB V.DP rfl rfl rfl rfl rfl rfl h):Q→P:=h
theorem Ol(h:Q→P:=by exact fun h=>eh (c := (CK)) V.sB V.DP rfl rfl rfl rfl jM (own aB) (by omega) rfl h):Q→P:=h
theorem R5(h:Q→P:=by exact fun h=>bo (aM (A := DK (es ++ [(Ce.mk x.k q35 c35 x.d)])) (.cons oQ (.cons c9 .nil)) ak (fun w0 h hh => LF (x := (Ce.mk x.k q35 c35 x.d)) rfl hh)) h):Q→P:=h
theorem Vu(h:Q→P:=by exact fun h=>oV (cY (v := .bool false) (mQ (r := true) (by rw [hk]; exact beq_self_eq_true _) rfl (show ao _ _ = some (.string (strOfNums aa.a8)) by unfold aa.a8; rfl)) rfl) h):Q→P:=h
theorem nO(h:Q→P:=by exact fun h=>oV (aA V.s9 rfl aB rfl) h):Q→P:=h
theorem tK(h:Q→P:=by exact fun h=>oV (aA V.s4 rfl dm rfl) h):Q→P:=h
theorem AT(h:Q→P:=by exact fun h=>oV (ji (aa.bu hxk) (aa.bu aa.qW) rfl (show ao _ _ = some (.string (strOfNums aa.ba)) by unfold aa.ba; rfl) (decide_eq_false h1).symm) h):Q→P:=h
theorem UK(h:Q→P:=by exact fun h=>oV (ji (aa.bu hxk) (aa.bu aa.qP) rfl (show ao _ _ = some (.string (strOfNums aa.aS)) by unfold aa.aS; rfl) (decide_eq_true h2).symm) h):Q→P:=h
theorem H8(h:Q→P:=by exact fun h=>oV (ji (aa.bu hxk) (aa.bu aa.qP) rfl (show ao _ _ = some (.string (strOfNums aa.aS)) by unfold aa.aS; rfl) (decide_eq_false h2).symm) h):Q→P:=h
theorem PN(h:Q→P:=by exact fun h=>oV (ji (aa.bu hxk) (aa.bu aa.qV) rfl (show ao _ _ = some (.string (strOfNums aa.aY)) by unfold aa.aY; rfl) (decide_eq_false h3).symm) h):Q→P:=h
theorem UM(h:Q→P:=by exact fun h=>aj (lN x.k hxk (by omega) true (decide_eq_true h4).symm) V.ui  rfl .nil rfl h):Q→P:=h
theorem Ej(h:Q→P:=by exact fun h=>oV (cY (v := .int .i64 (((es.length - 1) : Nat) : Int)) (kV rfl rfl wI) (by congr 1; omega)) h):Q→P:=h
theorem mc(h:Q→P:=by exact fun h=>oV (xI V.sB (by exact bM hR aB)) h):Q→P:=h
theorem vk(h:Q→P:=by exact fun h=>oV (bd V.Us rfl) h):Q→P:=h
theorem vl(h:Q→P:=by exact fun h=>oV (iD (c := (CK)) 0 V.s9 rfl (by exact bM hR aB) (by omega) (by omega) rfl rfl) h):Q→P:=h
theorem IJ(h:Q→P:=by exact fun h=>oV (cY (v := .bool false) (mQ (r := true) (by rw [hk0]; exact beq_self_eq_true _) rfl (show ao _ _ = some (.string (strOfNums aa.bQ)) by unfold aa.bQ; rfl)) rfl) h):Q→P:=h
theorem pD(h:Q→P:=by exact fun h=>oV (bd V.SY rfl) h):Q→P:=h
theorem zT(h:Q→P:=by exact fun h=>oV (iD (c := (CK)) 1 V.jV rfl (by exact bM hR aB) (by omega) (by omega) rfl rfl) h):Q→P:=h
theorem JO(h:Q→P:=by exact fun h=>oV (bV (cL rfl rfl) (fun hh => hh (by omega))) h):Q→P:=h
theorem Vg(h:Q→P:=by exact fun h=>oV (cY (v := .bool false) (mQ (r := true) (by rw [hkn]; exact beq_self_eq_true _) rfl (show ao _ _ = some (.string (strOfNums aa.a8)) by unfold aa.a8; rfl)) rfl) h):Q→P:=h
theorem UN(h:Q→P:=by exact fun h=>aj (SE b45 w.plte w.trns w.bU w.ka (CK.g ((es.drop 1).take ((es.length - 1) - 1)) (i : Int)) hxo.1 hxo.2) V.Yz  rfl (.cons aw .nil) rfl h):Q→P:=h
theorem Q2z(h:Q→P:=by exact fun h=>oV (jY (r := 16384 / h) rfl rfl (by omega) (aa.qn (by omega))) h):Q→P:=h
theorem vp(h:Q→P:=by exact fun h=>cS V.vn rfl h):Q→P:=h
theorem Q20(h:Q→P:=by exact fun h=>aj (my w h) V.yc  rfl .nil rfl h):Q→P:=h
theorem vX(h:Q→P:=by exact fun h=>oV (bV (cL rfl rfl) (by omega)) h):Q→P:=h
theorem Z7(h:Q→P:=by exact fun h=>oV (cY (v := .int .i64 ((4 * w * h).toNat : Int)) (gB rfl rfl wI) (by congr 1; omega)) h):Q→P:=h
theorem Q4I(h:Q→P:=by exact fun h=>lR ((4 * w * h).toNat) ((4 * w * h).toNat) (aD 62 .u16) rfl rfl V.gk V.DW rfl rfl rfl rfl (by omega) (by omega) rfl rfl h):Q→P:=h
theorem Q4J(h:Q→P:=by exact fun h=>oV (cn V.uo V.vn rfl (cs := [.int .i64 w, .int .i64 h, .slice (some ⟨b20, 0, none⟩) ((4 * w * h).toNat) ((4 * w * h).toNat)]) rfl) h):Q→P:=h
theorem X6(h:Q→P:=by exact fun h=>cy (bb V.fZ rfl rfl (us := [_, _, _]) rfl rfl (by exact sR) (by exact Nat.le_of_ble_eq_true rfl) rfl) h):Q→P:=h
theorem Rh(h:Q→P:=by exact fun h=>oV (cQ (cL rfl rfl) (by omega)) h):Q→P:=h
theorem Ze(h:Q→P:=by exact fun h=>oV (cn V.uo V.vn rfl (cs := [.int .i64 0, .int .i64 0, .slice none 0 0]) rfl) h):Q→P:=h
theorem Df(h:Q→P:=by exact fun h=>cy (bb V.fZ rfl rfl (us := [_, _, _]) rfl rfl (by exact fI) (by exact Nat.le_of_ble_eq_true rfl) rfl) h):Q→P:=h
theorem ZU(h:Q→P:=by exact fun h=>aj (pM w h) V.EV  rfl .nil rfl h):Q→P:=h
theorem VE(h:Q→P:=by exact fun h=>jE rfl (cs := [_, _, _]) rfl rfl h):Q→P:=h
theorem yK(h:Q→P:=by exact fun h=>oV (bd V.tx rfl) h):Q→P:=h
theorem DS(h:Q→P:=by exact fun h=>oV (aA V.vW rfl aB rfl) h):Q→P:=h
theorem Sp(h:Q→P:=by exact fun h=>cy (bb V.a145 rfl rfl (us := [_, _, _, _, _, _]) rfl rfl (by exact fI) (by exact Nat.le_of_ble_eq_true rfl) rfl) h):Q→P:=h
theorem NW(h:Q→P:=by exact fun h=>oV (dv V.a145 rfl aB (vs := [_, _, _, _, _, _]) rfl rfl) h):Q→P:=h
theorem VB(h:Q→P:=by exact fun h=>cy (bb V.IV rfl rfl (us := [_, _, _, _, _, _]) rfl rfl (by exact fI) (by exact Nat.le_of_ble_eq_true rfl) rfl) h):Q→P:=h
theorem Rc(h:Q→P:=by exact fun h=>aj (iC x) V.pZ  rfl .nil rfl h):Q→P:=h
theorem Iv(h:Q→P:=by exact fun h=>oR (aA V.jV rfl aB rfl) h):Q→P:=h
theorem CO(h:Q→P:=by exact fun h=>oV (iQ (r := P) rfl rfl (by omega) ((aa.AE hd).trans hP.symm)) h):Q→P:=h
theorem Vr(h:Q→P:=by exact fun h=>oV (jY (r := 65535 / (P - 1)) rfl rfl (by omega) (rZ (by omega) (by omega) (by omega))) h):Q→P:=h
theorem xR(h:Q→P:=by exact fun h=>oV (cQ (dE rfl rfl) (by decide)) h):Q→P:=h
theorem qA(h:Q→P:=by exact fun h=>oV (bV (dE rfl rfl) (by decide)) h):Q→P:=h
theorem rB(h:Q→P:=by exact fun h=>oV (dv V.fZ rfl aB (vs := [_, _, _]) rfl rfl) h):Q→P:=h
theorem rz(h:Q→P:=by exact fun h=>oV (dv V.fZ rfl dm (vs := [_, _, _]) rfl rfl) h):Q→P:=h
theorem Jo(h:Q→P:=by exact fun h=>nR (fun y FF hA => aA V.vW rfl aB rfl) h):Q→P:=h
theorem rq(h:Q→P:=by exact fun h=>cS V.yJ rfl h):Q→P:=h
theorem QN(h:Q→P:=by exact fun h=>oV (aA V.s3 rfl dW rfl) h):Q→P:=h
theorem Es(h:Q→P:=by exact fun h=>cy (bb V.k9 rfl rfl (us := [_, _, _, _]) rfl rfl (by exact fI) (by exact Nat.le_of_ble_eq_true rfl) rfl) h):Q→P:=h
theorem H5(h:Q→P:=by exact fun h=>aj (oy w1 h1 q1 n1 c1 true (decide_eq_true a).symm) V.nf  rfl .nil rfl h):Q→P:=h
theorem NP(h:Q→P:=by exact fun h=>aj (oy w2 h2 q2 n2 c2 true (decide_eq_true a2).symm) V.nf  rfl .nil rfl h):Q→P:=h
theorem AS(h:Q→P:=by exact fun h=>oV (bd V.Jx rfl) h):Q→P:=h
theorem Ip(h:Q→P:=by exact fun h=>oR (bd V.sK rfl) h):Q→P:=h
theorem yU(h:Q→P:=by exact fun h=>nR (fun y FF hA => aA V.RL rfl aB rfl) h):Q→P:=h
theorem xf(h:Q→P:=by exact fun h=>oV (cn V.Nk V.vi rfl (cs := [_, _, _, _, _]) rfl) h):Q→P:=h
theorem vg(h:Q→P:=by exact fun h=>cy (bb V.nK rfl rfl (us := [_, _, _, _, _]) rfl rfl (by exact fI) (by exact Nat.le_of_ble_eq_true rfl) rfl) h):Q→P:=h
theorem Qt(h:Q→P:=by exact fun h=>oV (aA V.s3 rfl iH rfl) h):Q→P:=h
theorem yV(h:Q→P:=by exact fun h=>oV (bd V.wx rfl) h):Q→P:=h
theorem xA(h:Q→P:=by exact fun h=>cy (bb V.nK rfl rfl (us := [_, _, _, _, _]) rfl rfl (by exact zM) (by exact Nat.le_of_ble_eq_true rfl) rfl) h):Q→P:=h
theorem A6(h:Q→P:=by exact fun h=>aj (DA (B.getD 9 0) (B.getD 8 0) true (decide_eq_true a1).symm) V.V8  rfl .nil rfl h):Q→P:=h
theorem FK(h:Q→P:=by exact fun h=>oV (bV (dz rfl rfl) a2) h):Q→P:=h
theorem Jr(h:Q→P:=by exact fun h=>oV (bV (dz rfl rfl) a3) h):Q→P:=h
theorem I0(h:Q→P:=by exact fun h=>oV (bV (dE rfl rfl) a4) h):Q→P:=h
theorem Wq(h:Q→P:=by exact fun h=>oV (iD (c := (aR)) 0 V.s9 rfl (by exact bM hR aB) (by omega) (by omega) rfl rfl) h):Q→P:=h
theorem V1(h:Q→P:=by exact fun h=>cy (dK V.jV rfl rfl rfl (by exact sR) (by exact Nat.le_of_ble_eq_true rfl) rfl) h):Q→P:=h
theorem PX(h:Q→P:=by exact fun h=>oV (ji (aa.bu hxk) (aa.bu aa.qP) rfl (show ao _ _ = some (.string (strOfNums aa.aS)) by unfold aa.aS; rfl) (decide_eq_false a0).symm) h):Q→P:=h
theorem UE(h:Q→P:=by exact fun h=>oV (ji (aa.bu hxk) (aa.bu aa.qV) rfl (show ao _ _ = some (.string (strOfNums aa.aY)) by unfold aa.aY; rfl) (decide_eq_false a1).symm) h):Q→P:=h
theorem Jp(h:Q→P:=by exact fun h=>cy (bb V.R4 rfl rfl (us := [_, _, _, _, _, _, _, _, _]) rfl rfl (by exact fI) (by exact Nat.le_of_ble_eq_true rfl) rfl) h):Q→P:=h
theorem SM(h:Q→P:=by exact fun h=>oV (cQ (dE rfl rfl) a1) h):Q→P:=h
theorem pn(h:Q→P:=by exact fun h=>oV (bV (dE rfl rfl) a1) h):Q→P:=h
theorem JN(h:Q→P:=by exact fun h=>oV (cQ (dE rfl rfl) a2) h):Q→P:=h
theorem yD(h:Q→P:=by exact fun h=>oV (bV (dE rfl rfl) a2) h):Q→P:=h
theorem AV(h:Q→P:=by exact fun h=>oV (lJ rfl rfl (by omega) (oe (by omega))) h):Q→P:=h
theorem ZS(h:Q→P:=by exact fun h=>wN [pz 0 [] [0], pz 1 [0] [], pz 3 [1] [], pz 7 [2] [], pz 15 [3] [], pz 0 [] [0], pz 32 [5] [], pz 96 [6] [], pz 224 [7] [], pz 480 [8] [], pz 992 [9] [], pz 2016 [10] [], pz 4095 [4, 11] []] [⟨fun y => ai bf 90 [.int .i64 h.w, .int .i64 h.h, .int .i64 h.dep, .int .i64 h.ar, .bool h.aZ, .slice pp pl.length cp, .slice pt tr.length ct, .slice pd nd cd, .slice none 0 0], none, none, [3, 9]⟩, ⟨fun y => R, none, none, []⟩] F V.mixed h):Q→P:=h
theorem Yr(h:Q→P:=by exact fun h=>nG V.gG h):Q→P:=h
theorem Q1E(h:Q→P:=by exact fun h=>nE (fun y FF hA => aV (Post := []) (iC h.ar) V.pZ rfl .nil (fun v G h => by rcases h with ⟨rfl, rfl⟩; exact ⟨rfl, .refl _⟩)) h):Q→P:=h
theorem Q2M(h:Q→P:=by exact fun h=>bE _ (.cons (d := 0) rfl (.cons (d := 42) rfl (.nil _))) h):Q→P:=h
theorem ZZ(h:Q→P:=by exact fun h=>bo (M := ai bf 90 [.int .i64 h.w, .int .i64 h.h, .int .i64 h.dep, .int .i64 h.ar, .bool h.aZ, .slice pp pl.length cp, .slice pt tr.length ct, .slice pd nd cd, .slice none 0 0] :: R :: F) (fun _ _ h => h) h):Q→P:=h
theorem Q3x(h:Q→P:=by exact fun h=>nR (fun y FF hA => xI V.bN (by exact bM hS aB)) h):Q→P:=h
theorem Q3y(h:Q→P:=by exact fun h=>nR (fun y FF hA => xL V.s5 (by exact bM hS aB)) h):Q→P:=h
theorem Q2O(h:Q→P:=by exact fun h=>nE (fun y FF hA => dD (bb V.k9 rfl rfl (us := [_, _, _, _]) rfl rfl (by exact fI) (by exact Nat.le_of_ble_eq_true rfl) rfl) ⟨rfl, .refl _⟩) h):Q→P:=h
theorem Vw(h:Q→P:=by exact fun h=>bE _ (.cons (d := 4) rfl (.cons (d := 5) rfl (.nil _))) h):Q→P:=h
theorem PI(h:Q→P:=by exact fun h=>au [(0, _), (1, _)] Tryz.func151 rfl Tryz.ntmps151 rfl rfl h):Q→P:=h
theorem VW(h:Q→P:=by exact fun h=>cy (bb V.k9 rfl rfl (us := [_, _, _, _]) rfl rfl (by exact zM) (by exact Nat.le_of_ble_eq_true rfl) rfl) h):Q→P:=h
theorem Q4S(h:Q→P:=by exact fun h=>wN [pz 0 [] [6], pz 1 [0] [], pz 3 [1] [], pz 0 [] [6], pz 8 [3] [], pz 24 [4] [], pz 0 [] [6], pz 64 [6] [], pz 192 [7] [], pz 0 [] [11], pz 1023 [2, 5, 8, 9] [], pz 2047 [10] [4], pz 4095 [] []] [⟨fun y => Row (aD 62 .u16) ps v.length cs (v.map (aa.up h.dep)), none, none, [1, 2, 4, 5, 7, 8]⟩, ⟨fun y => ai b4 68 [.int .u16 0, .int .u16 0, .int .u16 0, .int .u16 0], none, some 11, []⟩, ⟨fun y => ai bf 90 [.int .i64 h.w, .int .i64 h.h, .int .i64 h.dep, .int .i64 h.ar, .bool h.aZ, .slice pp pl.length cp, .slice pt tr.length ct, .slice pd nd cd, .slice pk (aa.aQ h tr).length ck], none, none, []⟩, ⟨fun y => Rk, none, none, []⟩, ⟨fun y => Rv, none, none, []⟩, ⟨fun y => R, none, none, []⟩, ⟨fun y => ai b4 68 [.int .u16 ((aD 62 .u16).g (v.map (aa.up h.dep)) 0), .int .u16 ((aD 62 .u16).g (v.map (aa.up h.dep)) 0), .int .u16 ((aD 62 .u16).g (v.map (aa.up h.dep)) 0), .int .u16 al2], some 11, none, []⟩] F V.mixed h):Q→P:=h
theorem VH(h:Q→P:=by exact fun h=>nR (fun y FF hA => xI V.gk (own aB)) h):Q→P:=h
theorem Q0S(h:Q→P:=by exact fun h=>nR (fun y FF hA => xL V.ld (own aB)) h):Q→P:=h
theorem Q4T(h:Q→P:=by exact fun h=>nV (fun y hA L => jx V.mV V.yJ rfl (cs := [.int .u16 ((aD 62 .u16).g (v.map (aa.up h.dep)) 0), .int .u16 ((aD 62 .u16).g (v.map (aa.up h.dep)) 0), .int .u16 ((aD 62 .u16).g (v.map (aa.up h.dep)) 0), .int .u16 al2]) (by kernel_rfl)) h):Q→P:=h
theorem Z3(h:Q→P:=by exact fun h=>bo (M := Row (aD 62 .u16) ps v.length cs (v.map (aa.up h.dep)) :: ai bf 90 [.int .i64 h.w, .int .i64 h.h, .int .i64 h.dep, .int .i64 h.ar, .bool h.aZ, .slice pp pl.length cp, .slice pt tr.length ct, .slice pd nd cd, .slice pk (aa.aQ h tr).length ck] :: Rk :: Rv :: R :: ai b4 68 [.int .u16 ((aD 62 .u16).g (v.map (aa.up h.dep)) 0), .int .u16 ((aD 62 .u16).g (v.map (aa.up h.dep)) 0), .int .u16 ((aD 62 .u16).g (v.map (aa.up h.dep)) 0), .int .u16 al2] :: F) (fun _ _ h => h) h):Q→P:=h
theorem Yj(h:Q→P:=by exact fun h=>bo (sub .nil (.skip (.keep (.keep (.keep (.keep (.keep .refl))))))) h):Q→P:=h
theorem VU(h:Q→P:=by exact fun h=>oV (cY (v := .int .i64 (aa.off a y)) (BA rfl rfl) (congrArg (Value.int .i64) (aa.O4 a y))) h):Q→P:=h
theorem Fp(h:Q→P:=by exact fun h=>jW TT 16 rfl (by omega) h):Q→P:=h
theorem vG(h:Q→P:=by exact fun h=>aj (BP (x + y - z) (by omega) x hx) V.Hu  rfl .nil rfl h):Q→P:=h
theorem tQ(h:Q→P:=by exact fun h=>aj (BP (x + y - z) (by omega) y hy) V.Hu  rfl .nil rfl h):Q→P:=h
theorem zN(h:Q→P:=by exact fun h=>oV (cQ (ga rfl rfl) q1) h):Q→P:=h
theorem xp(h:Q→P:=by exact fun h=>aj (BP (x + y - z) (by omega) z hz) V.Hu  rfl .nil rfl h):Q→P:=h
theorem H7(h:Q→P:=by exact fun h=>oV (bV (ga rfl rfl) q2) h):Q→P:=h
theorem IH(h:Q→P:=by exact fun h=>oV (cQ (ga rfl rfl) q3) h):Q→P:=h
theorem JB(h:Q→P:=by exact fun h=>oV (bV (ga rfl rfl) q3) h):Q→P:=h
theorem HS(h:Q→P:=by exact fun h=>oV (bV (ga rfl rfl) q1) h):Q→P:=h
theorem FD(h:Q→P:=by exact fun h=>aj (xo (x + y - z) (by omega) x hx) V.GJ  rfl .nil rfl h):Q→P:=h
theorem Ft(h:Q→P:=by exact fun h=>aj (xo (x + y - z) (by omega) y hy) V.GJ  rfl .nil rfl h):Q→P:=h
theorem FI(h:Q→P:=by exact fun h=>aj (xo (x + y - z) (by omega) z hz) V.GJ  rfl .nil rfl h):Q→P:=h
theorem WE(h:Q→P:=by exact fun h=>oV (jY (r := ((aa.gz L1 i back) + (L2.getD i 0)) / 2) rfl rfl (by omega) (rZ (by omega) (by omega) (by omega))) h):Q→P:=h
theorem IP(h:Q→P:=by exact fun h=>oV (aA V.s3 rfl DL rfl) h):Q→P:=h
theorem Wr(h:Q→P:=by exact fun h=>(RN kind p1 c1 n1 L1 R1 hR1 hn1 hB1 p2 c2 n2 L2 R2 hR2 hn2 hB2 back hbk h2 hk hn1s).mono h):Q→P:=h
theorem Z5(h:Q→P:=by exact fun h=>(BR h bf pp pl cp pt tr ct pd nd cd pk ck R hP hT hcp hB hBt hpl htl Rk hRk hf hs q n c hn hcap pix hpx0 p hp yy hyy pb cb row hrl hBr Rb hRb hbits).mono h):Q→P:=h
theorem Yc(h:Q→P:=by exact fun h=>nR (fun y FF hA => xI V.bN (by exact bM hz aB)) h):Q→P:=h
theorem YV(h:Q→P:=by exact fun h=>nR (fun y FF hA => xL V.s5 (by exact bM hz aB)) h):Q→P:=h
theorem Y3(h:Q→P:=by exact fun h=>nV (fun y hA L => cY (v := .int .i64 (Dt.getD s.a 0)) (df V.u5 Tryz.underlying3 rfl (aa.BH hKB)) (congrArg (Value.int .i64) hKD)) h):Q→P:=h
theorem Nr(h:Q→P:=by exact fun h=>nV (fun y hA L => cY (v := .int .i64 ((nr + 1 : Nat) : Int)) (eA (r := 1 + (nr : Int)) rfl rfl wI) (congrArg (Value.int .i64) (by omega))) h):Q→P:=h
theorem ND(h:Q→P:=by exact fun h=>nV (fun y hA L => eb 1 (nr + 1) s.cz V.bN rfl ⟨_, rfl⟩ ⟨_, rfl⟩ rfl (by omega) (by omega) (by omega)) h):Q→P:=h
theorem Q4Z(h:Q→P:=by exact fun h=>jD [pz 0 [] [3], pz 1 [0] [], pz 3 [1] [], pz 7 [2] [], pz 0 [] [3], pz 0 [] [11], pz 32 [5] [], pz 112 [4, 6] [], pz 0 [] [13], pz 0 [] [12], pz 1023 [3, 7, 8, 9] [], pz 2047 [10] [], pz 4095 [11] [], pz 4095 [11] [], pz 8191 [12] [], pz 32767 [13] []] [⟨fun y => Rb, none, none, [1, 2, 10]⟩, ⟨fun y => Row U5 s.pa s.na s.ca s.A, none, none, [10]⟩, ⟨fun y => ai b5 26 [.int .i64 h.w, .int .i64 h.h, .slice q n c], none, none, []⟩, ⟨fun y => ai b6 145 [.int .i64 p.x, .int .i64 p.y, .int .i64 p.dx, .int .i64 p.dy, .int .i64 p.w, .int .i64 p.h], none, none, []⟩, ⟨fun y => ai bf 90 [.int .i64 h.w, .int .i64 h.h, .int .i64 h.dep, .int .i64 h.ar, .bool h.aZ, .slice pp pl.length cp, .slice pt tr.length ct, .slice pd nd cd, .slice pk (aa.aQ h tr).length ck], none, none, []⟩, ⟨fun y => Row (aD 62 .u16) q n c s.P, none, none, []⟩, ⟨fun y => Rk, none, none, []⟩, ⟨fun y => R, none, none, []⟩, ⟨fun y => Row U5 (iu (y 10)).1 nr (iu (y 10)).2 (aa.fa (Dt.getD s.a 0) ((Dt.drop (s.a + 1)).take nr) s.A back), some 10, none, []⟩] F V.mixed (by kernel_rfl) rfl (fun _ => .refl _) (aP _ (aP _ (aP _ (aP _ (aP _ (aP _ (aP _ (aP _ (cT _ rfl (by intro y y2 h; simp only [h 10 (.inl rfl)]) ft))))))))) h):Q→P:=h
theorem UJ(h:Q→P:=by exact fun h=>fc (fun y v => .tuple #[.slice (iu v).1 nr (iu v).2, .bool true]) (fun y v => True) _ _ (fun y v => [Row U5 (iu v).1 nr (iu v).2 (aa.fa (Dt.getD s.a 0) ((Dt.drop (s.a + 1)).take nr) s.A back)]) _ (fun y => rfl) (fun y => rfl) (fun y => rfl) (fun y => rfl) (fun y FF hA => wK (α := Option Addr × Nat) (fun a => .tuple #[.slice a.1 nr a.2, .bool true]) iu (fun a => [Row U5 a.1 nr a.2 (aa.fa (Dt.getD s.a 0) ((Dt.drop (s.a + 1)).take nr) s.A back), Rb, Row U5 s.pa s.na s.ca s.A]) (Lb (Dt.getD s.a 0) (dq s.pz 1 s.cz 1) (s.cz - 1) nr ((Dt.drop (s.a + 1)).take nr) Rb hS1 hL1l (aa.fR (aa.dT hDB _) _) s.pa s.ca s.na s.A (Row U5 s.pa s.na s.ca s.A) (fun _ _ hh => hh.rd) hAl hAB back hbk (by omega) (hDB.get _).1 (by omega) hk4) (fun a => rfl) V.OW rfl (aO .nil)) (by intros; rfl) (by intros; rfl) (by intros; rfl) (by intro y y2 h; simp only [h 10 (.inl rfl)]) (by intro y y2 h; rfl) h):Q→P:=h
theorem Vf(h:Q→P:=by exact fun h=>ei _ (fun y => rfl) rfl rfl rfl (fun y hA L => dD (fY rfl) ⟨rfl, rfl⟩) (by intros; rfl) (by intro y y2 h; simp only [h 10 (.inr (by decide))]) h):Q→P:=h
theorem N2(h:Q→P:=by exact fun h=>ei _ (fun y => rfl) rfl rfl rfl (fun y hA L => dD (dQ rfl rfl) ⟨rfl, rfl⟩) (by intros; rfl) (by intro y y2 h; simp only [h 10 (.inr (by decide))]) h):Q→P:=h
theorem Vj(h:Q→P:=by exact fun h=>ei _ (fun y => rfl) rfl rfl rfl (fun y hA L => dD (iO rfl) ⟨rfl, rfl⟩) (by intros; rfl) (by intro y y2 h; simp only [h 10 (.inr (by decide))]) h):Q→P:=h
theorem Q51(h:Q→P:=by exact fun h=>bE [(0, .pointer (some ⟨bf, 0, none⟩)), (3, .slice s.pz (Dt.length - s.a) s.cz), (5, .pointer (some ⟨b5, 0, none⟩)), (6, .pointer (some ⟨b6, 0, none⟩)), (11, .int .i64 (nr : Int)), (12, .int .i64 (back : Int)), (14, .int .i64 (yv : Int)), (15, .slice (iu (y 10)).1 nr (iu (y 10)).2), (16, .bool true), (37, .int .i64 p.h), (38, .int .i64 (yv : Int))] (.cons (d := 0) rfl (.cons (d := 3) rfl (.cons (d := 5) rfl (.cons (d := 6) rfl (.cons (d := 11) rfl (.cons (d := 12) rfl (.cons (d := 14) rfl (.cons (d := 15) rfl (.cons (d := 16) rfl (.cons (d := 37) rfl (.cons (d := 38) rfl (.nil _)))))))))))) h):Q→P:=h
theorem Q52(h:Q→P:=by exact fun h=>bo (M := Rb :: Row U5 s.pa s.na s.ca s.A :: ai b5 26 [.int .i64 h.w, .int .i64 h.h, .slice q n c] :: ai b6 145 [.int .i64 p.x, .int .i64 p.y, .int .i64 p.dx, .int .i64 p.dy, .int .i64 p.w, .int .i64 p.h] :: ai bf 90 [.int .i64 h.w, .int .i64 h.h, .int .i64 h.dep, .int .i64 h.ar, .bool h.aZ, .slice pp pl.length cp, .slice pt tr.length ct, .slice pd nd cd, .slice pk (aa.aQ h tr).length ck] :: Row (aD 62 .u16) q n c s.P :: Rk :: R :: Row U5 (iu (y 10)).1 nr (iu (y 10)).2 (aa.fa (Dt.getD s.a 0) ((Dt.drop (s.a + 1)).take nr) s.A back) :: F) (fun _ _ h => h) h):Q→P:=h
theorem Q53(h:Q→P:=by exact fun h=>bo (sub .nil (.keep (.skip (.keep (.keep (.keep (.keep (.keep (.keep (.keep .refl)))))))))) h):Q→P:=h
theorem Q54(h:Q→P:=by exact fun h=>(w9 h bf pp pl cp pt tr ct pd nd cd pk ck R hP hT hcp hB hBt hpl htl Rk hRk hf hs q n c hn hcap pix hpx0 p hp Dt hDB hDl nr hnr back hback at0 hat pb cb Rb hRb hcb).mono h):Q→P:=h
theorem vJ(h:Q→P:=by exact fun h=>oV (cn V.uo V.vn rfl (cs := [_, _, _]) rfl) h):Q→P:=h
theorem RU(h:Q→P:=by exact fun h=>cy (bb V.fZ rfl rfl (us := [_, _, _]) rfl rfl (by exact I1) (by exact Nat.le_of_ble_eq_true rfl) rfl) h):Q→P:=h
theorem SH(h:Q→P:=by exact fun h=>cy (bb V.fZ rfl rfl (us := [_, _, _]) rfl rfl (by exact WA) (by exact Nat.le_of_ble_eq_true rfl) rfl) h):Q→P:=h
theorem Ex(h:Q→P:=by exact fun h=>aj (OD p c B R hR hl hB hcap l h1) V.VY  rfl (.cons aw .nil) rfl h):Q→P:=h
theorem oP(h:Q→P:=by exact fun h=>oV (bV (cL rfl rfl) (fun q => q rfl)) h):Q→P:=h
theorem Fb(h:Q→P:=by exact fun h=>aj (Mf q13 c13 es (Row CK q13 es.length c13 es) (fun _ _ hh => hh.rd) hel (DI hB h1) hcq) V.Y7  rfl (aq .nil) rfl h):Q→P:=h
theorem HT(h:Q→P:=by exact fun h=>oV (iD (c := (CK)) 1 V.jV rfl (own aB) (by omega) (by omega) rfl rfl) h):Q→P:=h
theorem H2(h:Q→P:=by exact fun h=>aj (PG (CK.g es 0).p (CK.g es 0).c (CK.g es 0).d (DK es) (tW (OR h3)) (aa.jc hB h1 (CK.g es 0).ch (List.mem_map_of_mem (OR h3)))) V.Pm  rfl (.cons aw .nil) rfl h):Q→P:=h
theorem MG(h:Q→P:=by exact fun h=>aj (Hi q13 c13 es (Row CK q13 es.length c13 es) (fun _ _ hh => hh.rd) hel (DI hB h1) hco (by omega)) V.Yf  rfl (.cons bg (.cons aw .nil)) rfl h):Q→P:=h
theorem Rf(h:Q→P:=by exact fun h=>oV (dv V.nK rfl jR (vs := [_, _, _, _, _]) rfl rfl) h):Q→P:=h
theorem Q55(h:Q→P:=by exact fun h=>aj (qL h hd b8 s.pp s.P s.cp s.pt s.T s.ct s.pd s.D.length s.cd none 0 0 hlP s.hp true (decide_eq_true ht).symm) V.IU  rfl (aq .nil) rfl h):Q→P:=h
theorem VQ(h:Q→P:=by exact fun h=>oV (An (r := -(65535 : Int) - 1) rfl (ag.AH (by omega) (by omega))) h):Q→P:=h
theorem FE(h:Q→P:=by exact fun h=>eh (c := (U5)) V.bN V.z5 rfl rfl rfl rfl aw (own aB) (by omega) rfl h):Q→P:=h
theorem VC(h:Q→P:=by exact fun h=>oV (An (r := -(Z.length : Int) - 1) rfl (ag.AH (by omega) (by omega))) h):Q→P:=h
theorem vx(h:Q→P:=by exact fun h=>oV (df V.u3 Tryz.underlying5 rfl (ag.fm _)) h):Q→P:=h
theorem Pg(h:Q→P:=by exact fun h=>nR (fun y FF hA => xI V.om (by exact bM hR aB)) h):Q→P:=h
theorem Vh(h:Q→P:=by exact fun h=>nR (fun y FF hA => iD (c := (aR)) 0 V.s9 rfl (by exact bM hR aB) (by omega) (by omega) rfl rfl) h):Q→P:=h
theorem YD(h:Q→P:=by exact fun h=>nR (fun y FF hA => iD (c := (aR)) 1 V.jV rfl (by exact bM hR aB) (by omega) (by omega) rfl rfl) h):Q→P:=h
theorem Wt(h:Q→P:=by exact fun h=>oV (dX (r := (W : Int) / 256) rfl rfl (by decide) (ag.lX (k := 8) (by decide) rfl)) h):Q→P:=h
theorem U8(h:Q→P:=by exact fun h=>oV (dX (r := (H : Int) / 256) rfl rfl (by decide) (ag.lX (k := 8) (by decide) rfl)) h):Q→P:=h
theorem Wj(h:Q→P:=by exact fun h=>nE (fun y FF hA => dD (lQ (c := (aD 62 .u16)) (_) V.ld rfl rfl rfl (by exact fI) (by omega) (by omega) rfl rfl) ⟨rfl, .refl _⟩) h):Q→P:=h
theorem Pz(h:Q→P:=by exact fun h=>oV (jZ (ty' := 0) Tryz.underlying24 rfl) h):Q→P:=h
theorem V3(h:Q→P:=by exact fun h=>nR (fun y FF hA => nT (k : Int) V.ld rfl aB (by (simp only [List.length_cons, List.length_nil]; omega)) (by omega) (by omega)) h):Q→P:=h
theorem Ql(h:Q→P:=by exact fun h=>(Q6)<|(Q0) h):Q→P:=h
theorem Qj(h:Q→P:=by exact fun h=>(Qi)<|(Q0) h):Q→P:=h
theorem QC(h:Q→P:=by exact fun h=>(Q8)<|(Q0) h):Q→P:=h
theorem QL(h:Q→P:=by exact fun h=>(QB)<|(Q1) h):Q→P:=h
theorem Y9(h:Q→P:=by exact fun h=>(mT)<|(mM) h):Q→P:=h
theorem YL(h:Q→P:=by exact fun h=>(QE)<|(Ql) h):Q→P:=h
theorem Oe(h:Q→P:=by exact fun h=>oV (xI V.cV (by exact bM hR jR))<|oV (xL V.s3 (by exact bM hR jR)) h):Q→P:=h
theorem Va(h:Q→P:=by exact fun h=>bE _ (.cons (d := 6) rfl (.cons (d := 42) rfl (.nil _)))<|bo (M := R :: Row U5 q22 x.length c22 x :: F) (fun _ _ h => h) h):Q→P:=h
theorem V7(h:Q→P:=by exact fun h=>oV (gB (r := (aa.up d x)) rfl rfl (aa.up_mul hP hd hx.1 hxP))<|oV (df V.u3 Tryz.underlying62 rfl (aa.Sn hui)) h):Q→P:=h
theorem QP(h:Q→P:=by exact fun h=>(Qf)<|(Q0) h):Q→P:=h
theorem oN(h:Q→P:=by exact fun h=>dh<|bj h):Q→P:=h
theorem QY(h:Q→P:=by exact fun h=>(Q7)<|(Q0) h):Q→P:=h
theorem QZ(h:Q→P:=by exact fun h=>(Q3)<|(Q0) h):Q→P:=h
theorem Yw(h:Q→P:=by exact fun h=>nN<|(Y9) h):Q→P:=h
theorem Qw(h:Q→P:=by exact fun h=>nM<|(Yw) h):Q→P:=h
theorem Q5g(h:Q→P:=by exact fun h=>nR (fun y FF hA => xI V.cV (by exact bM hR aB))<|nR (fun y FF hA => xL V.s3 (by exact bM hR aB)) h):Q→P:=h
theorem Q03(h:Q→P:=by exact fun h=>(l7)<|(xB) h):Q→P:=h
theorem Q1d(h:Q→P:=by exact fun h=>nG V.jo<|(pY) h):Q→P:=h
theorem tZ(h:Q→P:=by exact fun h=>(Q5)<|(Qf) h):Q→P:=h
theorem Q05(h:Q→P:=by exact fun h=>(mc)<|(Q0) h):Q→P:=h
theorem QF(h:Q→P:=by exact fun h=>nA<|(Qb) h):Q→P:=h
theorem Q0c(h:Q→P:=by exact fun h=>(QE)<|(Qk) h):Q→P:=h
theorem II(h:Q→P:=by intro h;refine (Q9) ?_;exact oV (xI V.sB (own aB)) h):Q→P:=h
theorem Q0h(h:Q→P:=by exact fun h=>(Q5)<|(YL) h):Q→P:=h
theorem Q0i(h:Q→P:=by exact fun h=>(kC)<|(QL) h):Q→P:=h
theorem Q3N(h:Q→P:=by intro h;refine (N2) ?_;exact nV (fun y hA L => dQ rfl rfl) h):Q→P:=h
theorem U6(h:Q→P:=by intro h;refine (Qt) ?_;exact aj (my (aH.cR B) (aH.cR (B.drop 4))) V.yc  rfl .nil rfl h):Q→P:=h
theorem Wv(h:Q→P:=by exact fun h=>oR (xL V.s5 (by exact bM hR aB))<|oR (df V.u5 Tryz.underlying3 rfl wI) h):Q→P:=h
theorem Z6(h:Q→P:=by intro h;refine (Qv) ?_;exact nV (fun y hA L => gB (r := (aa.parts h.ar * h.dep)) rfl rfl wI) h):Q→P:=h
theorem V5(h:Q→P:=by intro h;refine (QH) ?_;exact oV (cY (v := .bool true) (JV Tryz.underlying204 rfl rfl) rfl) h):Q→P:=h
theorem Q0w(h:Q→P:=by exact fun h=>(Qz)<|(Ql) h):Q→P:=h
theorem Q0x(h:Q→P:=by exact fun h=>(Qr)<|(Ql) h):Q→P:=h
theorem Wh(h:Q→P:=by exact fun h=>oR (xI V.gk (by exact bM hR1 dW))<|oR (xL V.ld (by exact bM hR1 dW)) h):Q→P:=h
theorem Wo(h:Q→P:=by exact fun h=>oR (xI V.gk (by exact bM hR2 iH))<|oR (xL V.ld (by exact bM hR2 iH)) h):Q→P:=h
theorem Vi(h:Q→P:=by intro h;refine (Ql) ?_;exact oV (cY (v := .bool false) (aA V.s4 rfl dW rfl) (by rw [he])) h):Q→P:=h
theorem Q5o(h:Q→P:=by intro h;refine (Qj) ?_;exact oV (kt (r := 32 * ((U5.g B 1) / 32 % 2)) rfl rfl (aH.Ct hw)) h):Q→P:=h
theorem Vs(h:Q→P:=by exact fun h=>oR (xI V.cV (by exact bM hR1 aB))<|oR (xL V.s3 (by exact bM hR1 aB)) h):Q→P:=h
theorem U3(h:Q→P:=by exact fun h=>oR (xI V.cV (by exact bM hR2 dm))<|oR (xL V.s3 (by exact bM hR2 dm)) h):Q→P:=h
theorem VT(h:Q→P:=by exact fun h=>oV (xI V.cV (by exact bM hRv iH))<|oV (xL V.s3 (by exact bM hRv iH)) h):Q→P:=h
theorem Vm(h:Q→P:=by exact fun h=>oV (xI V.bN (by exact bM hR2 dm))<|oV (xL V.s5 (by exact bM hR2 dm)) h):Q→P:=h
theorem Wb(h:Q→P:=by intro h;refine (YX) ?_;exact jE rfl (cs := [_, _, _, _, _, _, _, _, _, _, _, _, _]) rfl rfl h):Q→P:=h
theorem WI(h:Q→P:=by exact fun h=>oV (xI V.cV (by exact bM hR aB))<|oV (xL V.s3 (by exact bM hR aB)) h):Q→P:=h
theorem Vc(h:Q→P:=by intro h;refine (Q0) ?_;exact oV (dv V.a145 rfl dW (vs := [_, _, _, _, _, _]) rfl rfl) h):Q→P:=h
theorem Ax(h:Q→P:=by intro h;refine (oN) ?_;exact AN rfl h):Q→P:=h
theorem Vk(h:Q→P:=by exact fun h=>oV (df V.u3 Tryz.underlying76 rfl (aH.wrap32 hn4.1 hn4.2))<|(Qi) h):Q→P:=h
theorem Q0G(h:Q→P:=by exact fun h=>(jl)<|(jl) h):Q→P:=h
theorem Z1(h:Q→P:=by exact fun h=>(Qr)<|(QC) h):Q→P:=h
theorem ry(h:Q→P:=by exact fun h=>(nO)<|(Q3) h):Q→P:=h
theorem rF(h:Q→P:=by exact fun h=>(QD)<|(VE) h):Q→P:=h
theorem UI(h:Q→P:=by intro h;refine (QH) ?_;exact aj (G4 p cap B R hR hl) V.XG  rfl (aq .nil) rfl h):Q→P:=h
end Go.Sl
namespace Go.Sl
open Go.RowKit (Below)
abbrev Hp := Nat → Option Obj
def Hp.le (a b : Hp) : Prop := ∀ n o, a n = some o → b n = some o
def Hp.lu (a b : Hp) : Prop := ∀ n, a n = none ∨ b n = none
def Hp.join (a b : Hp) : Hp := fun n => match a n with | some o => some o | none => b n
theorem Hp.le_refl (a : Hp) : a.le a := fun _ _ h => h
theorem Hp.le_trans {a b c : Hp} (h : a.le b) (k : b.le c) : a.le c := fun n o e => k n o (h n o e)
theorem Hp.lh {a b : Hp} (h : a.lu b) : b.lu a := fun n => (h n).symm
theorem Hp.jB {a a' b b' : Hp} (h : a.lu b) (ha : a'.le a) (hb : b'.le b) : a'.lu b' := fun n => by
 rcases h n with h | h
 ·left
  cases e : a' n with
  | none => rfl
  | some o => rw [ha n o e] at h; cases h
 ·right
  cases e : b' n with
  | none => rfl
  | some o => rw [hb n o e] at h; cases h
theorem Hp.jm (a b : Hp) : a.le (a.join b) := fun n o h => by simp [Hp.join, h]
theorem Hp.iW {a b : Hp} (hd : a.lu b) : b.le (a.join b) := fun n o h => by
 rcases hd n with e | e
 ·simp [Hp.join, e, h]
 ·rw [e] at h; cases h
theorem Hp.join_le {a b c : Hp} (h : a.le c) (k : b.le c) : (a.join b).le c := fun n o e => by
 unfold Hp.join at e
 split at e
 ·rename_i x hx; cases e; exact h n _ hx
 ·exact k n o e
theorem Hp.pG {a b c : Hp} (h : a.lu c) (k : b.lu c) : (a.join b).lu c := fun n => by
 rcases h n with e | e
 ·rcases k n with e' | e'
  ·left; simp [Hp.join, e, e']
  ·exact .inr e'
 ·exact .inr e
abbrev ad := World → Hp → Prop
def bW (w0 : World) : List ad → Hp → Prop
 | [], _ => True
 | p :: l, h => ∃ h1 h2, Hp.lu h1 h2 ∧ Hp.le h1 h ∧ Hp.le h2 h ∧ p w0 h1 ∧ bW w0 l h2
theorem qk {w0 : World} : ∀ {L : List ad} {h h' : Hp}, Hp.le h h' → bW w0 L h → bW w0 L h'
 | [], _, _, _, _ => trivial
 | _ :: _, _, _, hl, ⟨h1, h2, d, l1, l2, p, r⟩ => ⟨h1, h2, d, Hp.le_trans l1 hl, Hp.le_trans l2 hl, p, r⟩
theorem jX {w0 : World} : ∀ {L M : List ad} {h : Hp}, bW w0 (L ++ M) h ↔ ∃ h1 h2, Hp.lu h1 h2 ∧ Hp.le h1 h ∧ Hp.le h2 h ∧ bW w0 L h1 ∧ bW w0 M h2
 | [], M, h => ⟨fun k => ⟨fun _ => none, h, fun _ => .inl rfl, fun _ _ e => by simp at e, Hp.le_refl _, trivial, k⟩, fun ⟨_, _, _, _, l, _, k⟩ => qk l k⟩
 | p :: L, M, h => by
  constructor
  ·rintro ⟨h1, h2, d, l1, l2, hp, k⟩
   obtain ⟨g1, g2, d', m1, m2, k1, k2⟩ := jX.1 k
   refine ⟨h1.join g1, g2, ?_, ?_, Hp.le_trans m2 l2, ?_, k2⟩
   ·exact Hp.pG (Hp.jB d (Hp.le_refl _) m2) d'
   ·exact Hp.join_le l1 (Hp.le_trans m1 l2)
   ·exact ⟨h1, g1, Hp.jB d (Hp.le_refl _) m1, Hp.jm _ _, Hp.iW (Hp.jB d (Hp.le_refl _) m1), hp, k1⟩
  ·rintro ⟨h1, h2, d, l1, l2, ⟨g1, g2, d', m1, m2, hp, k1⟩, k2⟩
   refine ⟨g1, g2.join h2, ?_, Hp.le_trans m1 l1, ?_, hp, ?_⟩
   ·exact Hp.lh (Hp.pG (Hp.lh d') (Hp.lh (Hp.jB d m1 (Hp.le_refl _))))
   ·exact Hp.join_le (Hp.le_trans m2 l1) l2
   ·exact jX.2 ⟨g2, h2, Hp.jB d m2 (Hp.le_refl _), Hp.jm _ _, Hp.iW (Hp.jB d m2 (Hp.le_refl _)), k1, k2⟩
theorem Ff {w0 : World} {L M : List ad} (hp : L.Perm M) : ∀ {h : Hp}, bW w0 L h → bW w0 M h := by
 induction hp with
 | nil => exact fun k => k
 | cons p _ ih => exact fun ⟨h1, h2, d, l1, l2, hp, k⟩ => ⟨h1, h2, d, l1, l2, hp, ih k⟩
 | swap p q l =>
  rintro h ⟨h1, h2, d, l1, l2, hp, g1, g2, d', m1, m2, hq, k⟩
  refine ⟨g1, h1.join g2, ?_, Hp.le_trans m1 l2, ?_, hq, h1, g2, ?_, Hp.jm _ _, ?_, hp, k⟩
  ·exact Hp.lh (Hp.pG (Hp.jB d (Hp.le_refl _) m1) (Hp.lh d'))
  ·exact Hp.join_le l1 (Hp.le_trans m2 l2)
  ·exact Hp.jB d (Hp.le_refl _) m2
  ·exact Hp.iW (Hp.jB d (Hp.le_refl _) m2)
 | trans _ _ ih1 ih2 => exact fun k => ih2 (ih1 k)
structure Inv (w0 : World) (L : List ad) (w : World) : Prop where
 below : Below w0.heap.size w0 w
 heap : ∃ h : Hp, (∀ b o, h b = some o → w0.heap.size ≤ b ∧ w.heap[b]? = some o) ∧ bW w0 L h
theorem Inv.perm {w0 w : World} {L M : List ad} (hi : Inv w0 L w) (hp : L.Perm M) : Inv w0 M w :=
 ⟨hi.below, let ⟨h, a, b⟩ := hi.heap; ⟨h, a, Ff hp b⟩⟩
theorem Inv.tail {w0 w : World} {A : ad} {L : List ad} (hi : Inv w0 (A :: L) w) : Inv w0 L w :=
 ⟨hi.below, let ⟨h, a, _, _, _, _, l2, _, k⟩ := hi.heap; ⟨h, a, qk l2 k⟩⟩
theorem Inv.right {w0 w : World} {L M : List ad} (hi : Inv w0 (L ++ M) w) : Inv w0 M w :=
 ⟨hi.below, let ⟨h, a, k⟩ := hi.heap; let ⟨_, _, _, _, l2, _, k2⟩ := jX.1 k; ⟨h, a, qk l2 k2⟩⟩
theorem Inv.start (w : World) : Inv w [] w := ⟨Below.refl _ _, ⟨fun _ => none, ⟨fun _ _ e => (by simp at e), trivial⟩⟩⟩
theorem Inv.vB {w0 w : World} {A : ad} {L : List ad} {ι : Sort _} {K : ι → Prop} {B : ι → List ad} (hA : ∀ h, A w0 h → ∃ i, K i ∧ bW w0 (B i) h) (hi : Inv w0 (A :: L) w) : ∃ i, K i ∧ Inv w0 (B i ++ L) w := by
 obtain ⟨hb, h, a, h1, h2, d, l1, l2, p, k⟩ := hi
 obtain ⟨i, c, s⟩ := hA h1 p
 exact ⟨i, c, hb, h, a, jX.2 ⟨h1, h2, d, l1, l2, s, k⟩⟩
theorem Inv.cls {w0 w : World} {A : ad} {B L : List ad} (hA : ∀ h, bW w0 B h → A w0 h) (hi : Inv w0 (B ++ L) w) : Inv w0 (A :: L) w := by
 obtain ⟨hb, h, a, k⟩ := hi
 obtain ⟨h1, h2, d, l1, l2, k1, k2⟩ := jX.1 k
 exact ⟨hb, h, a, h1, h2, d, l1, l2, hA h1 k1, k2⟩
theorem Inv.imp {w0 w : World} {A B : ad} {L : List ad} (hA : ∀ h, A w0 h → B w0 h) (hi : Inv w0 (A :: L) w) : Inv w0 (B :: L) w := by
 obtain ⟨hb, h, a, h1, h2, d, l1, l2, p, k⟩ := hi
 exact ⟨hb, h, a, h1, h2, d, l1, l2, hA _ p, k⟩
def Mk (e : Bool) (n : Nat) : Nat × Nat := cond e (n, n + 1) (0, 0)
def ai (b : Nat) (T : TypeId) (cs : List Value) : ad := fun _ h => ∃ e, h b = some (.cells cs.toArray T (Mk e cs.length))
theorem ai.mono {b : Nat} {T : TypeId} {cs : List Value} {w0 : World} {g h : Hp} (l : Hp.le g h) (c : ai b T cs w0 g) : ai b T cs w0 h := let ⟨e, p⟩ := c; ⟨e, l _ _ p⟩
def Pr (p : Prop) : ad := fun _ _ => p
def qa (l : List ad) : ad := fun w0 h => bW w0 l h
theorem Inv.Db {w0 w : World} {l L : List ad} (hi : Inv w0 (qa l :: L) w) : Inv w0 (l ++ L) w :=
 let ⟨_, _, k⟩ := Inv.vB (ι := Unit) (K := fun _ => True) (B := fun _ => l) (fun h s => ⟨(), trivial, s⟩) hi; k
theorem Inv.star {w0 w : World} {l L : List ad} (hi : Inv w0 (l ++ L) w) : Inv w0 (qa l :: L) w := Inv.cls (fun _ s => s) hi
theorem Inv.Sa {w0 w : World} {b : Nat} {T : TypeId} {cs : List Value} {L : List ad} (hi : Inv w0 (ai b T cs :: L) w) : w0.heap.size ≤ b :=
 let ⟨_, _, a, _, _, _, l1, _, ⟨_, p⟩, _⟩ := hi; (a _ _ (l1 _ _ p)).1
theorem Inv.pf {w0 w : World} {b : Nat} {T : TypeId} {cs : List Value} {L : List ad} (hi : Inv w0 (ai b T cs :: L) w) : ∃ e, w.heap[b]? = some (.cells cs.toArray T (Mk e cs.length)) :=
 let ⟨_, _, a, _, _, _, l1, _, ⟨e, p⟩, _⟩ := hi; ⟨e, (a _ _ (l1 _ _ p)).2⟩
theorem Inv.hJ {w0 w : World} {b : Nat} {T : TypeId} {cs : List Value} {L : List ad} (hi : Inv w0 (ai b T cs :: L) w) (o : Nat) : w.cell? ⟨b, o, none⟩ = cs[o]? := by
 obtain ⟨e, h⟩ := hi.pf
 simp [World.cell?, h]
theorem Inv.sX {w0 w : World} {b : Nat} {T : TypeId} {cs : List Value} {L : List ad} (hi : Inv w0 (ai b T cs :: L) w) (o : Nat) (ho : o < cs.length) : w.frozen? ⟨b, o, none⟩ = false := by
 obtain ⟨e, h⟩ := hi.pf
 cases e
 ·simp [World.frozen?, h, Mk]
 ·simp [World.frozen?, h, Mk]; omega
theorem Inv.alloc {w0 w : World} {L : List ad} (hi : Inv w0 L w) (T : TypeId) (cs : List Value) : Inv w0 (ai w.heap.size T cs :: L) (w.alloc (.cells cs.toArray T)) := by
 obtain ⟨hb, h, a, k⟩ := hi
 have hd : Hp.lu (fun b => if b = w.heap.size then some (Obj.cells cs.toArray T (0, 0)) else none) h := fun n => by
  by_cases e : n = w.heap.size
  ·right
   cases hn : h n with
   | none => rfl
   | some o =>
    have := (a n o hn).2
    rw [e] at this
    simp at this
  ·left; simp [e]
 refine ⟨hb.alloc hb.size _, Hp.join _ h, ?_, _, h, hd, Hp.jm _ _, Hp.iW hd, ⟨false, by simp [Mk]⟩, k⟩
 intro b o e
 unfold Hp.join at e
 by_cases hbs : b = w.heap.size
 ·subst hbs
  simp at e
  subst e
  exact ⟨hb.size, by show (w.heap.push _)[w.heap.size]? = _; simp⟩
 ·simp [hbs] at e
  obtain ⟨g1, g2⟩ := a b o e
  refine ⟨g1, ?_⟩
  show (w.heap.push _)[b]? = _
  rw [Array.getElem?_push, if_neg hbs]
  exact g2
theorem Inv.write {w0 w w' : World} {b : Nat} {T : TypeId} {cs cs' : List Value} {L : List ad} (hi : Inv w0 (ai b T cs :: L) w)
  (hos : w'.os = w.os) (ht : w'.tape = w.tape) (ho : w'.output = w.output) (hs : w.heap.size ≤ w'.heap.size)
  {e' : Bool} (hblk : w'.heap[b]? = some (.cells cs'.toArray T (Mk e' cs'.length))) (hoth : ∀ k, k ≠ b → k < w.heap.size → w'.heap[k]? = w.heap[k]?) : Inv w0 (ai b T cs' :: L) w' := by
 have hge := hi.Sa
 obtain ⟨hb, h, a, h1, h2, d, l1, l2, ⟨_, p⟩, k⟩ := hi
 have hlt : ∀ j o, w.heap[j]? = some o → j < w.heap.size := fun j o e => by
  rcases Nat.lt_or_ge j w.heap.size with h | h
  ·exact h
  ·simp [Array.getElem?_eq_none h] at e
 have hd : Hp.lu (fun n => if n = b then some (Obj.cells cs'.toArray T (Mk e' cs'.length)) else none) h2 := fun n => by
  by_cases e : n = b
  ·right
   rcases d n with x | x
   ·rw [e, p] at x; cases x
   ·exact x
  ·left; simp [e]
 refine ⟨hb.trans ⟨hos, ht, ho, hs, fun j hj => ?_⟩, Hp.join _ h2, ?_, _, h2, hd, Hp.jm _ _, Hp.iW hd, ⟨e', by simp⟩, k⟩
 ·have := hb.size
  exact hoth j (by omega) (by omega)
 ·intro j o e
  unfold Hp.join at e
  by_cases hj : j = b
  ·subst hj
   simp at e
   subst e
   exact ⟨hge, hblk⟩
  ·simp [hj] at e
   obtain ⟨g1, g2⟩ := a j o (l2 j o e)
   exact ⟨g1, by rw [hoth j hj (hlt j o g2)]; exact g2⟩
theorem Inv.setCell {w0 w : World} {b : Nat} {T : TypeId} {cs : List Value} {L : List ad} (hi : Inv w0 (ai b T cs :: L) w) (o : Nat) (v : Value) : Inv w0 (ai b T (cs.set o v) :: L) (w.setCell ⟨b, o, none⟩ v) := by
 obtain ⟨e, hbl⟩ := hi.pf
 refine hi.write (e' := e) rfl rfl rfl (by simp) ?_ ?_
 ·simp [World.setCell, Array.getElem?_modify, hbl]
 ·intro k hk _
  exact Below.heap_setCell _ _ _ _ hk
theorem Inv.drew {w0 w : World} {L : List ad} (hi : Inv w0 L w) : Inv w0 L w.drew :=
 ⟨hi.below.drew, hi.heap⟩
abbrev Env := List (Nat × Value)
def Env.get : Env → Nat → Option Value
 | [], _ => none
 | (k, v) :: E, d => cond (Nat.beq k d) (some v) (Env.get E d)
structure Ctx where
 P : Program
 w0 : World
 n : Nat
 D : List Deferred
 X : List PanicEntry → List ad → Prop
structure fk (C : Ctx) (E : Env) (a : Act) : Prop where
 defers : a.defers = C.D
 size : a.tmps.size = C.n
 get : ∀ d v, E.get d = some v → a.tmps[d]? = some v
def ao (E : Env) : Operand → Option Value
 | .tmp t => E.get t
 | .const v => some v
 | .global g => some (.pointer (some ⟨g, 0, none⟩))
 | .func f => some (.func (.func f) #[] #[])
theorem fk.eval {C : Ctx} {E : Env} {a : Act} (h : fk C E a) {x : Operand} {v : Value} (e : ao E x = some v) : a.eval x = v := by
 cases x with
 | tmp t => simp only [ao] at e; simp [Act.eval, h.get t v e]
 | const u => simpa [ao, Act.eval] using e
 | global g => simpa [ao, Act.eval] using e
 | func f => simpa [ao, Act.eval] using e
theorem Env.ia (k : Nat) (v : Value) (E : Env) (d : Nat) : Env.get ((k, v) :: E) d = if k = d then some v else Env.get E d := by
 simp only [Env.get]
 by_cases h : k = d
 ·subst h; simp
 ·have : Nat.beq k d = false := by
   cases hb : Nat.beq k d with
   | false => rfl
   | true => exact absurd (Nat.eq_of_beq_eq_true hb) h
  simp [this, h]
theorem fk.put {C : Ctx} {E : Env} {a : Act} (h : fk C E a) {d : Nat} (hd : d < C.n) (v : Value) : fk C ((d, v) :: E) (a.put (some d) v) := by
 refine ⟨h.defers, by simp [Act.put, h.size], fun k u e => ?_⟩
 rw [Env.ia] at e
 simp only [Act.put, Array.getElem?_setIfInBounds]
 by_cases hk : d = k
 ·subst hk
  simp at e
  simp [h.size, hd, e]
 ·simp only [hk, if_false] at e ⊢
  exact h.get k u e
def Le (E' E : Env) : Prop := ∀ d v, E'.get d = some v → E.get d = some v
theorem fk.le {C : Ctx} {E E' : Env} {a : Act} (h : fk C E a) (l : Le E' E) : fk C E' a := ⟨h.defers, h.size, fun d v e => h.get d v (l d v e)⟩
theorem Le.refl (E : Env) : Le E E := fun _ _ e => e
theorem Le.nil (E : Env) : Le [] E := fun _ _ e => by cases e
theorem Le.cons {E E' : Env} {d : Nat} {v : Value} (h : E.get d = some v) (l : Le E' E) : Le ((d, v) :: E') E := fun k u e => by
 rw [Env.ia] at e
 by_cases hk : d = k
 ·subst hk; simp at e; rw [← e]; exact h
 ·simp only [hk, if_false] at e; exact l k u e
abbrev QT := Exit → Env → List ad → Prop
def Qh (C : Ctx) (Q : QT) : Exit → Act → World → Prop := fun e a w => ∃ E L, fk C E a ∧ Inv C.w0 L w ∧ Q e E L
def Wp (C : Ctx) (c : Code) (Q : QT) (E : Env) (L : List ad) : Prop := ∀ a w, fk C E a → Inv C.w0 L w → c.wp C.P (Qh C Q) a w
def cA (C : Ctx) (ops : Array Oper) (l : List Oper) (Q : QT) (E : Env) (L : List ad) : Prop := ∀ a w, fk C E a → Inv C.w0 L w → wpList C.P ops (Qh C Q) l a w
def ij (k : Env → List ad → Prop) (Q : QT) : QT := fun e E L => match e with | .normal => k E L | e => Q e E L
def kr (id : Nat) (Q : QT) : QT := fun e E L => match e with | .exit i => cond (Nat.beq i id) (Q .normal E L) (Q (.exit i) E L) | e => Q e E L
section
variable {C : Ctx} {Q : QT} {E : Env} {L : List ad}
theorem Wp.mono {c : Code} {Q' : QT} (h : Wp C c Q E L) (hq : ∀ e E L, Q e E L → Q' e E L) : Wp C c Q' E L :=
 fun a w ha hi => Code.wp_mono (fun e a w ⟨E, L, x, y, z⟩ => ⟨E, L, x, y, hq e E L z⟩) (h a w ha hi)
theorem Wp.weaken {c : Code} {E' : Env} {L' : List ad} (h : Wp C c Q E' L') (l : Le E' E) (hp : L.Perm L') : Wp C c Q E L :=
 fun a w ha hi => h a w (ha.le l) (hi.perm hp)
theorem bE {c : Code} (E' : Env) (l : Le E' E) (h : Wp C c Q E' L) : Wp C c Q E L := h.weaken l (List.Perm.refl _)
theorem Re {c : Code} {L' : List ad} (hp : L.Perm L') (h : Wp C c Q E L') : Wp C c Q E L := h.weaken (Le.refl _) hp
theorem BX {c : Code} {A : ad} {ι : Sort _} {K : ι → Prop} {B : ι → List ad} (hA : ∀ h, A C.w0 h → ∃ i, K i ∧ bW C.w0 (B i) h)
  (k : ∀ i, K i → Wp C c Q E (B i ++ L)) : Wp C c Q E (A :: L) := fun a w ha hi => let ⟨i, c, s⟩ := hi.vB hA; k i c a w ha s
theorem iL {x y : Code} (h : Wp C x (ij (fun E L => Wp C y Q E L) Q) E L) : Wp C (.seq x y) Q E L := fun a w ha hi =>
 Go.wp_seq (Code.wp_mono (fun e a w ⟨E, L, ha, hi, q⟩ => by
  cases e with
  | normal => exact q a w ha hi
  | exit _ => exact ⟨E, L, ha, hi, q⟩
  | goto _ => exact ⟨E, L, ha, hi, q⟩
  | ret => exact ⟨E, L, ha, hi, q⟩
  | panic _ => exact ⟨E, L, ha, hi, q⟩
  | outgrown => exact ⟨E, L, ha, hi, q⟩) (h a w ha hi))
theorem bj {k : Env → List ad → Prop} (h : k E L) : ij k Q .normal E L := h
theorem P1 (h : Q .normal E L) : Wp C .skip Q E L := fun a w ha hi => Go.wp_skip ⟨E, L, ha, hi, h⟩
theorem Jf (h : Q .ret E L) : Wp C .ret Q E L := fun a w ha hi => Go.wp_ret ⟨E, L, ha, hi, h⟩
theorem Nh {id : Nat} (h : Q (.exit id) E L) : Wp C (.exit id) Q E L := fun a w ha hi => Go.wp_exit ⟨E, L, ha, hi, h⟩
theorem nb {id : Nat} {c : Code} (h : Wp C c (kr id Q) E L) : Wp C (.block id c) Q E L := fun a w ha hi =>
 Go.wp_block (Code.wp_mono (fun e a w ⟨E, L, ha, hi, q⟩ => by
  cases e with
  | exit i =>
   simp only [kr] at q
   simp only [Exit.inBlock]
   by_cases hid : i = id
   ·subst hid
    simp at q ⊢
    exact ⟨E, L, ha, hi, q⟩
   ·have : Nat.beq i id = false := by
     cases hb : Nat.beq i id with
     | false => rfl
     | true => exact absurd (Nat.eq_of_beq_eq_true hb) hid
    simp [this] at q
    simp only [hid, if_false]
    exact ⟨E, L, ha, hi, q⟩
  | normal => exact ⟨E, L, ha, hi, q⟩
  | goto _ => exact ⟨E, L, ha, hi, q⟩
  | ret => exact ⟨E, L, ha, hi, q⟩
  | panic _ => exact ⟨E, L, ha, hi, q⟩
  | outgrown => exact ⟨E, L, ha, hi, q⟩) (h a w ha hi))
theorem sS {c : Operand} {x y : Code} {b : Bool} (hc : ao E c = some (.bool b)) (ht : b = true → Wp C x Q E L) (hf : b = false → Wp C y Q E L) : Wp C (.cond c x y) Q E L :=
 fun a w ha hi => Go.wp_cond_split (ha.eval hc) (fun e => ht e a w ha hi) (fun e => hf e a w ha hi)
theorem nJ {c : Operand} {x y : Code} (hc : ao E c = some (.bool true)) (h : Wp C x Q E L) : Wp C (.cond c x y) Q E L :=
 fun a w ha hi => Go.wp_cond_true (ha.eval hc) (h a w ha hi)
theorem AN {c : Operand} {x y : Code} (hc : ao E c = some (.bool false)) (h : Wp C y Q E L) : Wp C (.cond c x y) Q E L :=
 fun a w ha hi => Go.wp_cond_false (ha.eval hc) (h a w ha hi)
theorem aC {c : Operand} {x y : Code} {p : Prop} [Decidable p] (hc : ao E c = some (.bool (decide p))) (ht : p → Wp C x Q E L) (hf : ¬ p → Wp C y Q E L) : Wp C (.cond c x y) Q E L :=
 sS hc (fun e => ht (of_decide_eq_true e)) (fun e => hf (of_decide_eq_false e))
theorem Sr {c : Code} (R : Nat → Env → List ad → Prop) (m : Nat) (h0 : R m E L)
  (h : ∀ m E L, R m E L → Wp C c (ij (fun E' L' => ∃ m', m' < m ∧ R m' E' L') Q) E L) : Wp C (.loop c) Q E L := by
 intro a w ha hi b k cs
 have key : ∀ n a w, (∃ E L, fk C E a ∧ Inv C.w0 L w ∧ R n E L) →
   ∃ e a' w', Qh C Q e a' w' ∧ Arrives C.P (lone (b.at a (.code c :: .inLoop c :: k)) cs w) b k cs e a' w' := by
  intro n
  induction n using Nat.strongRecOn with
  | _ n ih =>
   rintro a w ⟨E, L, ha, hi, hR⟩
   obtain ⟨e, a₁, w₁, hq, harr⟩ := h n E L hR a w ha hi b (.inLoop c :: k) cs
   cases e with
   | normal =>
    obtain ⟨E₁, L₁, ha₁, hi₁, m', hlt, hR₁⟩ := hq
    obtain ⟨e₂, a₂, w₂, hq₂, harr₂⟩ := ih m' hlt a₁ w₁ ⟨E₁, L₁, ha₁, hi₁, hR₁⟩
    exact ⟨e₂, a₂, w₂, hq₂, .of_steps (Steps.trans harr (.one step_inLoop)) harr₂⟩
   | exit id => exact ⟨_, a₁, w₁, hq, .pass (x := .inLoop c) rfl (fun _ _ => .inl (by simp)) harr⟩
   | goto l => exact ⟨_, a₁, w₁, hq, .pass (x := .inLoop c) rfl (fun _ _ => .inl (by simp)) harr⟩
   | ret => exact ⟨_, a₁, w₁, hq, .pass (x := .inLoop c) rfl (fun _ _ => .inl (by simp)) harr⟩
   | panic ch => exact ⟨_, a₁, w₁, hq, .pass (x := .inLoop c) rfl (fun _ _ => .inl (by simp)) harr⟩
   | outgrown => exact ⟨_, a₁, w₁, hq, .pass (x := .inLoop c) rfl (fun _ _ => .inl (by simp)) harr⟩
 obtain ⟨e, a', w', hq, harr⟩ := key m a w ⟨E, L, ha, hi, h0⟩
 exact ⟨e, a', w', hq, .of_steps (.one step_loop) harr⟩
end
end Go.Sl
namespace Go.Sl
open Go.RowKit (Below)
def bZ (P : Program) (t : TypeId) : Bool := match P.underlying t with | some (.struct _) => false | some (.array _ _) => false | some _ => (match P.info? t with | some i => Nat.beq i.size 1 | none => false) | none => false
def fT (P : Program) (t : TypeId) : Option Nat := match P.underlying t with | some (.struct _) => (P.info? t).map (·.size) | some (.array _ _) => (P.info? t).map (·.size) | _ => none
def cu (P : Program) (t : TypeId) : Option (List Value) := match P.info? t with | some i => (match i.zero with | some z => cond (Nat.beq z.cells.size i.size) (some z.cells.toList) none | none => none) | none => none
def aW (P : Program) (s f : Nat) : Option Nat := match P.underlying s with
 | some (.struct fs) => (match fs[f]? with | some fd => (match P.info? fd.type with | some i => cond (Nat.beq i.size 0) none (some fd.offset) | none => none) | none => none)
 | _ => none
def sliceB (P : Program) (t : TypeId) : Option (TypeId × Nat × Nat) := match P.underlying t with
 | some (.slice e) => (match P.info? e with | some i => some (e, i.size, i.bytes) | none => none)
 | _ => none
def iX (P : Program) (t : TypeId) : Option (Nat × TypeId × Nat) := match P.underlying t with
 | some (.array n e) => (match P.info? e with | some i => some (n, e, i.size) | none => none)
 | _ => none
def iK (P : Program) (t : TypeId) : Bool := (P.underlying t).isSome
def ZK (P : Program) (t : TypeId) (k : IntKind) : Prop := P.underlying t = some (.int k)
def ay (P : Program) (f : FuncId) : Bool := match P.funcs[f]? with | some fn => fn.body.isSome && !(fn.name == "runtime.NumGoroutine") | none => false
theorem sj {P : Program} {t : TypeId} (h : bZ P t = true) (w : World) : (isAgg t).run P w = .ok false w := by
 unfold bZ at h
 unfold isAgg
 split at h <;> simp_all [run_underlying]
theorem run_sizeOf {P : Program} {t : TypeId} {i : TypeInfo} (h : P.info? t = some i) (w : World) : (sizeOf t).run P w = .ok i.size w := by
 simp [sizeOf, typeInfo, h]
theorem zt {P : Program} {t : TypeId} (h : bZ P t = true) : ∃ i, P.info? t = some i ∧ i.size = 1 := by
 unfold bZ at h
 split at h <;> try simp at h
 split at h
 ·rename_i i hi; exact ⟨i, hi, Nat.eq_of_beq_eq_true h⟩
 ·simp at h
theorem kL {P : Program} {t n : Nat} (h : fT P t = some n) (w : World) : (isAgg t).run P w = .ok true w ∧ (sizeOf t).run P w = .ok n w := by
 unfold fT at h
 unfold isAgg
 split at h <;> try simp at h
 all_goals
  obtain ⟨i, hi, rfl⟩ := h
  exact ⟨by simp_all [run_underlying], run_sizeOf hi w⟩
theorem jw {P : Program} {t : Nat} {zs : List Value} (h : cu P t = some zs) : ∃ i z, P.info? t = some i ∧ i.zero = some z ∧ z.cells = zs.toArray ∧ i.size = zs.length := by
 unfold cu at h
 split at h <;> try simp at h
 rename_i i hi
 split at h <;> try simp at h
 rename_i z hz
 by_cases hs : Nat.beq z.cells.size i.size = true
 ·simp [hs] at h
  subst h
  exact ⟨i, z, hi, hz, by simp, by simpa using (Nat.eq_of_beq_eq_true hs).symm⟩
 ·simp [hs] at h
theorem Bq {P : Program} {s f o : Nat} (h : aW P s f = some o) : ∃ fs fd i, P.underlying s = some (.struct fs) ∧ fs[f]? = some fd ∧ P.info? fd.type = some i ∧ i.size ≠ 0 ∧ fd.offset = o := by
 unfold aW at h
 split at h <;> try simp at h
 rename_i fs hfs
 split at h <;> try simp at h
 rename_i fd hfd
 split at h <;> try simp at h
 rename_i i hi
 by_cases hz : Nat.beq i.size 0 = true
 ·simp [hz] at h
 ·simp [hz] at h
  refine ⟨fs, fd, i, hfs, hfd, hi, ?_, h⟩
  intro e
  rw [e] at hz
  exact hz rfl
theorem iP {P : Program} {t e sz bF : Nat} (h : sliceB P t = some (e, sz, bF)) : P.underlying t = some (.slice e) ∧ ∃ i, P.info? e = some i ∧ i.size = sz ∧ i.bytes = bF := by
 unfold sliceB at h
 split at h <;> try simp at h
 rename_i e' he
 split at h <;> try simp at h
 rename_i i hi
 obtain ⟨rfl, rfl, rfl⟩ := h
 exact ⟨he, i, hi, rfl, rfl⟩
theorem oi {P : Program} {t n e sz : Nat} (h : iX P t = some (n, e, sz)) : P.underlying t = some (.array n e) ∧ ∃ i, P.info? e = some i ∧ i.size = sz := by
 unfold iX at h
 split at h <;> try simp at h
 rename_i n' e' he
 split at h <;> try simp at h
 rename_i i hi
 obtain ⟨rfl, rfl, rfl⟩ := h
 exact ⟨he, i, hi, rfl⟩
theorem eU {a b : Nat} (h : Nat.blt a b = true) : a < b := Nat.le_of_ble_eq_true h
theorem Addr.eO (b o n : Nat) : (⟨b, o, none⟩ : Addr).add n = ⟨b, o + n, none⟩ := by
 unfold Addr.add
 split
 ·rename_i h; simp [h]
 ·rfl
theorem gl {n : Int} (h1 : -9223372036854775808 ≤ n) (h2 : n ≤ 9223372036854775807) : IntKind.i64.wrap n = n := by rw [IntKind.wrap_i64]; omega
theorem rZ {m n : Int} (h1 : 0 ≤ m) (h2 : 0 < n) (h3 : m ≤ 9223372036854775807) : IntKind.i64.wrap (m.tdiv n) = m / n := by
 rw [Int.tdiv_eq_ediv_of_nonneg h1]
 have h4 := Int.ediv_le_self n h1
 have h5 := Int.ediv_nonneg h1 (Int.le_of_lt h2)
 exact gl (by omega) (by omega)
theorem oe {m n : Int} (h1 : 0 ≤ m) : m.tmod n = m % n := Int.tmod_eq_emod_of_nonneg h1
inductive fM : List ad → ad → List ad → Prop
 | head {A : ad} {L : List ad} : fM (A :: L) A L
 | tail {A B : ad} {L F : List ad} : fM L A F → fM (B :: L) A (B :: F)
theorem fM.perm {L F : List ad} {A : ad} (h : fM L A F) : L.Perm (A :: F) := by
 induction h with
 | head => exact List.Perm.refl _
 | tail _ ih => exact (List.Perm.cons _ ih).trans (List.Perm.swap _ _ _)
inductive iV : List ad → ad → ad → List ad → Prop
 | head {A A' : ad} {L : List ad} : iV (A :: L) A A' (A' :: L)
 | tail {A A' B : ad} {L F : List ad} : iV L A A' F → iV (B :: L) A A' (B :: F)
theorem iV.perm {L L' : List ad} {A A' : ad} (h : iV L A A' L') : ∃ F, L.Perm (A :: F) ∧ (A' :: F).Perm L' := by
 induction h with
 | head => exact ⟨_, List.Perm.refl _, List.Perm.refl _⟩
 | @tail A A' B L F _ ih =>
  obtain ⟨G, h1, h2⟩ := ih
  exact ⟨B :: G, (List.Perm.cons _ h1).trans (List.Perm.swap _ _ _), (List.Perm.swap _ _ _).trans (List.Perm.cons _ h2)⟩
theorem Inv.mem {w0 w : World} {L : List ad} {A : ad} (hi : Inv w0 L w) (hm : A ∈ L) : ∃ F, Inv w0 (A :: F) w := by
 obtain ⟨X, Y, rfl⟩ := List.append_of_mem hm
 exact ⟨X ++ Y, hi.perm List.perm_middle⟩
section
variable {C : Ctx} {Q : QT} {E : Env} {L L' : List ad} {ops : Array Oper} {rest : List Oper} {d : Nat} {ty : TypeId} {pos : String} {aft : Array Edge} {op : Op} {v : Value}
theorem dR {id : Nat} {l : List Oper} (h : cA C l.toArray l Q E L) : Wp C (.region id l.toArray false) Q E L :=
 fun a w ha hi => wp_region_lit (h a w ha hi)
theorem dh (h : Q .normal E L) : cA C ops [] Q E L := fun a w ha hi => wpList_nil ⟨E, L, ha, hi, h⟩
theorem ye (hp : L.Perm L') (h : cA C ops rest Q E L') : cA C ops rest Q E L := fun a w ha hi => h a w ha (hi.perm hp)
theorem Jb {A : ad} {ι : Sort _} {K : ι → Prop} {B : ι → List ad} (hA : ∀ h, A C.w0 h → ∃ i, K i ∧ bW C.w0 (B i) h)
  (k : ∀ i, K i → cA C ops rest Q E (B i ++ L)) : cA C ops rest Q E (A :: L) := fun a w ha hi => let ⟨i, c, s⟩ := hi.vB hA; k i c a w ha s
def I4 : Op → Value → Bool
 | .move _, _ => true
 | .assign _, _ => true
 | .pick _ _ _, _ => true
 | .nilCheck _, _ => true
 | .load _ _, _ => true
 | .binOp _ _ _ _ _, .bool _ => true
 | .binOp _ _ _ _ _, .int _ _ => true
 | .unOp _ _ _, _ => true
 | .convert _ _ _, .int _ _ => true
 | .fieldAddr _ _ _, _ => true
 | .field _ _ _, _ => true
 | .indexAddr _ _ _, _ => true
 | .index _ _ _, _ => true
 | .extract _ _, _ => true
 | .slice _ _ _ _ _, .slice _ _ _ => true
 | .build _ _, _ => true
 | .call ⟨.builtin .len, _, _⟩, .int _ _ => true
 | .call ⟨.builtin .cap, _, _⟩, .int _ _ => true
 | .call ⟨.builtin .min, _, _⟩, .int _ _ => true
 | .call ⟨.builtin .max, _, _⟩, .int _ _ => true
 | _, _ => false
def bC (C : Ctx) (op : Op) (ty : TypeId) (E : Env) (L : List ad) (v : Value) (L' : List ad) : Prop :=
 ∀ (d : Option Nat) (pos : String) (aft : Array Edge) (g : Option (Nat × Bool)) a w, fk C E a → Inv C.w0 L w → ∃ w', ((execOp a.eval ⟨d, op, ty, pos, aft, g⟩).run C.P w = .ok (.value v) w' ∨ (execOp a.eval ⟨d, op, ty, pos, aft, g⟩).run C.P w = .ok .skip w' ∧ v = undef) ∧ Inv C.w0 L' w' ∧ (I4 op v = true → (execOp a.eval ⟨d, op, ty, pos, aft, g⟩).run C.P w = .ok (.value v) w)
def jI (C : Ctx) (op : Op) (ty : TypeId) (E : Env) (L : List ad) (R : Value → List ad → Prop) : Prop :=
 ∀ (d : Option Nat) (pos : String) (aft : Array Edge) (g : Option (Nat × Bool)) a w (K : Act → World → Prop) (Q : Exit → Act → World → Prop), fk C E a → Inv C.w0 L w →
  (∀ v L' w', R v L' → Inv C.w0 L' w' → K (a.put d v) w') → (⟨d, op, ty, pos, aft, g⟩ : Oper).wp C.P a w K Q
theorem bC.x (h : bC C op ty E L v L') : jI C op ty E L (fun v' M => v' = v ∧ M = L') := by
 intro d pos aft g a w K Qx ha hi hK
 obtain ⟨w', hr, hi', _⟩ := h d pos aft g a w ha hi
 unfold Oper.wp
 rcases hr with hr | ⟨hr, e⟩
 ·rw [hr]; exact hK v L' w' ⟨rfl, rfl⟩ hi'
 ·rw [hr]; subst e; exact hK undef L' w' ⟨rfl, rfl⟩ hi'
theorem tG (h : bC C op ty E L v L') (hd : Nat.blt d C.n = true) (k : cA C ops rest Q ((d, v) :: E) L') : cA C ops (⟨some d, op, ty, pos, aft, none⟩ :: rest) Q E L := by
 intro a w ha hi
 refine wpList_plain rfl (fun K hK => ?_)
 exact h.x _ _ _ _ a w K _ ha hi (fun v' M w' ⟨e1, e2⟩ hi' => by subst e1; subst e2; exact hK _ _ (k _ _ (ha.put (eU hd) _) hi'))
theorem cy (h : bC C op ty E L v L') (k : cA C ops rest Q E L') : cA C ops (⟨none, op, ty, pos, aft, none⟩ :: rest) Q E L := by
 intro a w ha hi
 refine wpList_plain rfl (fun K hK => ?_)
 exact h.x _ _ _ _ a w K _ ha hi (fun v' M w' ⟨e1, e2⟩ hi' => by subst e1; subst e2; exact hK _ _ (k _ _ ha hi'))
theorem nU {R : Value → List ad → Prop} (h : jI C op ty E L R) (hd : Nat.blt d C.n = true) (k : ∀ v L', R v L' → cA C ops rest Q ((d, v) :: E) L') : cA C ops (⟨some d, op, ty, pos, aft, none⟩ :: rest) Q E L := by
 intro a w ha hi
 refine wpList_plain rfl (fun K hK => ?_)
 exact h _ _ _ _ a w K _ ha hi (fun v M w' hR hi' => hK _ _ (k v M hR _ _ (ha.put (eU hd) _) hi'))
def iS (ops : Array Oper) (E : Env) (j : Nat) : Option Bool :=
 match ops[j]? with
 | some o => (match o.dst with
  | some t => (match E.get t with | some (.bool b) => some b | _ => none)
  | none => none)
 | none => none
theorem jG {a : Act} {j : Nat} {b want : Bool} {o : Oper} (ha : fk C E a) (h : iS ops E j = some b) (hg : o.guard = some (j, want)) : Region.wanted o (yielded ops a.tmps) = (b == want) := by
 unfold iS at h
 split at h <;> try simp at h
 rename_i oj hj
 split at h <;> try simp at h
 rename_i t ht
 split at h <;> try simp at h
 rename_i b' hb
 subst h
 have := ha.get t _ hb
 simp [Region.wanted, hg, yielded, hj, ht, this]
theorem dg {dst : Option Nat} {j : Nat} {want : Bool} (hg : iS ops E j = some want) (h : cA C ops (⟨dst, op, ty, pos, aft, none⟩ :: rest) Q E L) : cA C ops (⟨dst, op, ty, pos, aft, some (j, want)⟩ :: rest) Q E L := by
 intro a w ha hi
 have h1 := h a w ha hi
 have hw := jG (o := ⟨dst, op, ty, pos, aft, some (j, want)⟩) ha hg rfl
 unfold wpList at h1 ⊢
 rw [if_pos (by simp [Region.wanted])] at h1
 rw [if_pos (by rw [hw]; simp)]
 exact h1
theorem xw {j : Nat} {want b : Bool} (hg : iS ops E j = some b) (hb : (b == want) = false) (hd : Nat.blt d C.n = true) (h : cA C ops rest Q ((d, undef) :: E) L) : cA C ops (⟨some d, op, ty, pos, aft, some (j, want)⟩ :: rest) Q E L := by
 intro a w ha hi
 have hw := jG (o := ⟨some d, op, ty, pos, aft, some (j, want)⟩) ha hg rfl
 unfold wpList
 rw [if_neg (by rw [hw, hb]; simp)]
 exact h _ _ (ha.put (eU hd) _) hi
theorem yL {b : Bool} (t : Nat) (ht : E.get t = some (.bool b)) (hT : b = true → cA C ops rest Q ((t, .bool true) :: E) L) (hF : b = false → cA C ops rest Q ((t, .bool false) :: E) L) : cA C ops rest Q E L := by
 have key : ∀ c : Bool, b = c → Le ((t, .bool c) :: E) E := fun c e => by subst e; exact Le.cons ht (Le.refl _)
 intro a w ha hi
 cases b with
 | true => exact hT rfl a w (ha.le (key _ rfl)) hi
 | false => exact hF rfl a w (ha.le (key _ rfl)) hi
theorem kh {p : Prop} [Decidable p] (t : Nat) (ht : E.get t = some (.bool (decide p))) (hT : p → cA C ops rest Q ((t, .bool true) :: E) L) (hF : ¬ p → cA C ops rest Q ((t, .bool false) :: E) L) : cA C ops rest Q E L :=
 yL t ht (fun e => hT (of_decide_eq_true e)) (fun e => hF (of_decide_eq_false e))
theorem cM (hr : ∀ (d : Option Nat) (pos : String) (aft : Array Edge) (g : Option (Nat × Bool)) a w, fk C E a → (execOp a.eval ⟨d, op, ty, pos, aft, g⟩).run C.P w = .ok (.value v) w) : bC C op ty E L v L :=
 fun d pos aft g a w ha hi => ⟨w, .inl (hr d pos aft g a w ha), hi, fun _ => hr d pos aft g a w ha⟩
theorem fY {x : Operand} (h : ao E x = some v) : bC C (.move x) ty E L v L := cM fun d pos aft g a w ha => by simp [execOp, ha.eval h]
theorem iO {x : Operand} (h : ao E x = some v) : bC C (.assign x) ty E L v L := cM fun d pos aft g a w ha => by simp [execOp, ha.eval h]
theorem nF {c x y : Operand} (hc : ao E c = some (.bool true)) (h : ao E x = some v) : bC C (.pick c x y) ty E L v L := cM fun d pos aft g a w ha => by simp [execOp, ha.eval h, ha.eval hc, asBool]
theorem uI {c x y : Operand} (hc : ao E c = some (.bool false)) (h : ao E y = some v) : bC C (.pick c x y) ty E L v L := cM fun d pos aft g a w ha => by simp [execOp, ha.eval h, ha.eval hc, asBool]
theorem Bp {x : Operand} {p : Addr} (h : ao E x = some (.pointer (some p))) : bC C (.nilCheck x) ty E L (.pointer (some p)) L := cM fun d pos aft g a w ha => by simp [execOp, ha.eval h]
theorem lH {x : Operand} {t : TypeId} {b : Bool} (h : ao E x = some (.bool b)) : bC C (.unOp .not t x) ty E L (.bool (!b)) L := cM fun d pos aft g a w ha => by simp [execOp, ha.eval h, Op.unary]
theorem Fw {x : Operand} {t : TypeId} {p : Prop} [Decidable p] (h : ao E x = some (.bool (decide p))) : bC C (.unOp .not t x) ty E L (.bool (decide (¬ p))) L := cM fun d pos aft g a w ha => by simp [execOp, ha.eval h, Op.unary]
theorem dQ {x : Operand} {vs : Array Value} {i : Nat} (h : ao E x = some (.tuple vs)) (hv : vs[i]? = some v) : bC C (.extract x i) ty E L v L := cM fun d pos aft g a w ha => by simp [execOp, ha.eval h, Instr.extract, hv]
section ints
variable {x y : Operand} {t t' : TypeId} {k : IntKind} {m n r : Int}
theorem iZ {o : BinOp} {t' : TypeId} (d : Option Nat) (pos : String) (aft : Array Edge) (g : Option (Nat × Bool)) {a : Act} {w : World} {u1 u2 : Value} (hx : a.eval x = u1) (hy : a.eval y = u2) (hg : (eqGuard o t x y u1 u2).run C.P w = .ok () w) :
  (execOp a.eval ⟨d, .binOp o t x y t', ty, pos, aft, g⟩).run C.P w = ((binOp o t u1 u2).run C.P w).andThen fun v w => .ok (.value v) w := by
 simp [execOp, hx, hy, hg]
theorem zn {o : BinOp} (w : World) : (eqGuard o t x y (.int k m) (.int k n)).run C.P w = .ok () w := by
 unfold eqGuard
 cases o <;> simp
theorem jj {o : BinOp} (hx : ao E x = some (.int k m)) (hy : ao E y = some (.int k n)) (hr : ∀ w, (binOp o t (.int k m) (.int k n)).run C.P w = .ok v w) : bC C (.binOp o t x y t') ty E L v L :=
 cM fun d pos aft g a w ha => by rw [iZ d pos aft g (ha.eval hx) (ha.eval hy) (zn w), hr]; rfl
theorem eA (hx : ao E x = some (.int k m)) (hy : ao E y = some (.int k n)) (e : k.wrap (m + n) = r) : bC C (.binOp .add t x y t') ty E L (.int k r) L := jj hx hy fun w => by simp [binOp, Op.intArith, e]
theorem kV (hx : ao E x = some (.int k m)) (hy : ao E y = some (.int k n)) (e : k.wrap (m - n) = r) : bC C (.binOp .sub t x y t') ty E L (.int k r) L := jj hx hy fun w => by simp [binOp, Op.intArith, e]
theorem gB (hx : ao E x = some (.int k m)) (hy : ao E y = some (.int k n)) (e : k.wrap (m * n) = r) : bC C (.binOp .mul t x y t') ty E L (.int k r) L := jj hx hy fun w => by simp [binOp, Op.intArith, e]
theorem jY (hx : ao E x = some (.int k m)) (hy : ao E y = some (.int k n)) (h0 : n ≠ 0) (e : k.wrap (m.tdiv n) = r) : bC C (.binOp .quo t x y t') ty E L (.int k r) L := jj hx hy fun w => by simp [binOp, Op.intDiv, h0, e]
theorem lJ (hx : ao E x = some (.int k m)) (hy : ao E y = some (.int k n)) (h0 : n ≠ 0) (e : m.tmod n = r) : bC C (.binOp .rem t x y t') ty E L (.int k r) L := jj hx hy fun w => by simp [binOp, Op.intDiv, h0, e]
theorem kt (hx : ao E x = some (.int k m)) (hy : ao E y = some (.int k n)) (e : k.wrap ((BitVec.ofInt k.bits m &&& BitVec.ofInt k.bits n).toNat : Int) = r) : bC C (.binOp .and t x y t') ty E L (.int k r) L := jj hx hy fun w => by rw [← e]; simp [binOp, Op.intBits]
theorem qb (hx : ao E x = some (.int k m)) (hy : ao E y = some (.int k n)) (e : k.wrap ((BitVec.ofInt k.bits m ||| BitVec.ofInt k.bits n).toNat : Int) = r) : bC C (.binOp .or t x y t') ty E L (.int k r) L := jj hx hy fun w => by rw [← e]; simp [binOp, Op.intBits]
theorem qS (hx : ao E x = some (.int k m)) (hy : ao E y = some (.int k n)) (e : k.wrap ((BitVec.ofInt k.bits m ^^^ BitVec.ofInt k.bits n).toNat : Int) = r) : bC C (.binOp .xor t x y t') ty E L (.int k r) L := jj hx hy fun w => by rw [← e]; simp [binOp, Op.intBits]
theorem iQ {k' : IntKind} (hx : ao E x = some (.int k m)) (hy : ao E y = some (.int k' n)) (h0 : 0 ≤ n) (e : k.wrap (m * 2 ^ (min n.toNat k.bits)) = r) : bC C (.binOp .shl t x y t') ty E L (.int k r) L :=
 cM fun d pos aft g a w ha => by
  rw [iZ d pos aft g (ha.eval hx) (ha.eval hy) (by simp [eqGuard])]
  simp [binOp, Op.shift, Int.not_lt.2 h0, ← e]
theorem dX {k' : IntKind} (hx : ao E x = some (.int k m)) (hy : ao E y = some (.int k' n)) (h0 : 0 ≤ n) (e : m.fdiv (2 ^ (min n.toNat k.bits)) = r) : bC C (.binOp .shr t x y t') ty E L (.int k r) L :=
 cM fun d pos aft g a w ha => by
  rw [iZ d pos aft g (ha.eval hx) (ha.eval hy) (by simp [eqGuard])]
  simp [binOp, Op.shift, Int.not_lt.2 h0, ← e]
theorem dV (hx : ao E x = some (.int k m)) (hy : ao E y = some (.int k n)) : bC C (.binOp .lss t x y t') ty E L (.bool (decide (m < n))) L := jj hx hy fun w => by simp [binOp, Op.intCmp]
theorem ga (hx : ao E x = some (.int k m)) (hy : ao E y = some (.int k n)) : bC C (.binOp .leq t x y t') ty E L (.bool (decide (m ≤ n))) L := jj hx hy fun w => by simp [binOp, Op.intCmp]
theorem dz (hx : ao E x = some (.int k m)) (hy : ao E y = some (.int k n)) : bC C (.binOp .gtr t x y t') ty E L (.bool (decide (n < m))) L := jj hx hy fun w => by simp [binOp, Op.intCmp]
theorem Cb (hx : ao E x = some (.int k m)) (hy : ao E y = some (.int k n)) : bC C (.binOp .geq t x y t') ty E L (.bool (decide (n ≤ m))) L := jj hx hy fun w => by simp [binOp, Op.intCmp]
theorem dE (hx : ao E x = some (.int k m)) (hy : ao E y = some (.int k n)) : bC C (.binOp .eql t x y t') ty E L (.bool (decide (m = n))) L := jj hx hy fun w => by
 simp [binOp, Op.intCmp]; rw [Bool.eq_iff_iff]; simp
theorem cL (hx : ao E x = some (.int k m)) (hy : ao E y = some (.int k n)) : bC C (.binOp .neq t x y t') ty E L (.bool (decide (m ≠ n))) L := jj hx hy fun w => by
 simp [binOp, Op.intCmp]; rw [Bool.eq_iff_iff]; simp
theorem df {src dst : TypeId} {k' : IntKind} (hs : iK C.P src = true) (hd : C.P.underlying dst = some (.int k')) (hx : ao E x = some (.int k m)) (e : k'.wrap m = r) : bC C (.convert src dst x) ty E L (.int k' r) L :=
 cM fun d pos aft g a w ha => by
  simp only [execOp, ha.eval hx]
  have := run_convert_int (P := C.P) (w := w) src dst k m
  unfold iK at hs
  obtain ⟨ds, hds⟩ := Option.isSome_iff_exists.1 hs
  simp [convert, run_underlying hds, run_underlying hd, Conv.intToInt, e]
end ints
theorem oO {t e : TypeId} {p : Option Addr} (ht : C.P.underlying t = some (.pointer e)) (d : Nat) (w : World) : (Op.equalIn (d + 1) t (.pointer p) (.pointer none)).run C.P w = .ok p.isNone w := by
 cases p <;> simp [Op.equalIn, run_underlying ht]
theorem uZ {x y : Operand} {t t' e : TypeId} {p : Option Addr} (ht : C.P.underlying t = some (.pointer e)) (hx : ao E x = some (.pointer p)) (hy : ao E y = some (.pointer none)) : bC C (.binOp .eql t x y t') ty E L (.bool p.isNone) L :=
 cM fun d pos aft g a w ha => by
  rw [iZ d pos aft g (ha.eval hx) (ha.eval hy) (by simp [eqGuard])]
  have h := oO ht (p := p) 9999 w
  simp only [binOp, Op.equal, Op.maxDepth, Sem.run_bind, h, Result.andThen_ok, Sem.run_pure]
theorem JV {x y : Operand} {t t' e : TypeId} {p : Option Addr} (ht : C.P.underlying t = some (.pointer e)) (hx : ao E x = some (.pointer p)) (hy : ao E y = some (.pointer none)) : bC C (.binOp .neq t x y t') ty E L (.bool (!p.isNone)) L :=
 cM fun d pos aft g a w ha => by
  rw [iZ d pos aft g (ha.eval hx) (ha.eval hy) (by simp [eqGuard])]
  have h := oO ht (p := p) 9999 w
  simp only [binOp, Op.equal, Op.maxDepth, Sem.run_bind, h, Result.andThen_ok, Sem.run_pure]
theorem bd {x : Operand} {s f o b p : Nat} (ht : aW C.P s f = some o) (h : ao E x = some (.pointer (some ⟨b, p, none⟩))) : bC C (.fieldAddr s x f) ty E L (.pointer (some ⟨b, p + o, none⟩)) L :=
 cM fun d pos aft g a w ha => by
  obtain ⟨fs, fd, i, h1, h2, h3, h4, rfl⟩ := Bq ht
  simp [execOp, ha.eval h, Instr.fieldAt, run_underlying h1, h2, Instr.sureAddr, fieldPlace, run_sizeOf h3, h4, Addr.eO]
theorem LC {x ix : Operand} {t e sz bF b p len cap : Nat} {k : IntKind} {i : Int} (j : Nat) (hj : i = (j : Int)) (ht : sliceB C.P t = some (e, sz, bF)) (h : ao E x = some (.slice (some ⟨b, p, none⟩) len cap)) (hi : ao E ix = some (.int k i)) (hlt : j < len) : bC C (.indexAddr t x ix) ty E L (.pointer (some ⟨b, p + j * sz, none⟩)) L :=
 cM fun d pos aft g a w ha => by
  obtain ⟨h1, i', h2, h3, h4⟩ := iP ht
  subst hj
  have : (j : Int) < (len : Int) := by omega
  simp [execOp, ha.eval h, ha.eval hi, Instr.indexAt, asIntOf, run_underlying h1, run_sizeOf h2, h3, hlt, Addr.eO]
theorem fQ {x ix : Operand} {t e sz n b p : Nat} {k : IntKind} {i : Int} (j : Nat) (hj : i = (j : Int)) (ht : iX C.P t = some (n, e, sz)) (h : ao E x = some (.pointer (some ⟨b, p, none⟩))) (hi : ao E ix = some (.int k i)) (hlt : j < n) : bC C (.indexAddr t x ix) ty E L (.pointer (some ⟨b, p + j * sz, none⟩)) L :=
 cM fun d pos aft g a w ha => by
  obtain ⟨h1, i', h2, h3⟩ := oi ht
  subst hj
  simp [execOp, ha.eval h, ha.eval hi, Instr.indexAt, asIntOf, run_underlying h1, run_sizeOf h2, h3, hlt, Addr.eO, Instr.sureAddr]
theorem vq {t : TypeId} {p : Addr} {w : World} (hs : bZ C.P t = true) (h : w.cell? p = some v) : (loadVar t p).run C.P w = .ok v w := by
 simp [loadVar, sj hs, h]
theorem Ai {x : Operand} {t : TypeId} {p : Addr} (hs : bZ C.P t = true) (hx : ao E x = some (.pointer (some p))) (hw : ∀ w, Inv C.w0 L w → w.cell? p = some v) : bC C (.load t x) ty E L v L :=
 fun d pos aft g a w ha hi => ⟨w, .inl (by simp [execOp, ha.eval hx, Instr.loadAt, Instr.sureAddr, vq hs (hw w hi)]), hi, fun _ => by simp [execOp, ha.eval hx, Instr.loadAt, Instr.sureAddr, vq hs (hw w hi)]⟩
theorem aA {x : Operand} {t b o T : Nat} {cs : List Value} (hs : bZ C.P t = true) (hx : ao E x = some (.pointer (some ⟨b, o, none⟩))) (hm : ai b T cs ∈ L) (hv : cs[o]? = some v) : bC C (.load t x) ty E L v L :=
 Ai hs hx fun w hi => by obtain ⟨F, hF⟩ := hi.mem hm; rw [hF.hJ, hv]
theorem tM {x : Operand} {t n b o : Nat} {vs : List Value} (hs : fT C.P t = some n) (hx : ao E x = some (.pointer (some ⟨b, o, none⟩))) (hn : vs.length = n) (hw : ∀ w, Inv C.w0 L w → ∀ j v, vs[j]? = some v → w.cell? ⟨b, o + j, none⟩ = some v) : bC C (.load t x) ty E L (.agg vs.toArray) L :=
 fun d pos aft g a w ha hi => by
  have hr : (execOp a.eval ⟨d, .load t x, ty, pos, aft, g⟩).run C.P w = .ok (.value (.agg vs.toArray)) w := by
   obtain ⟨h1, h2⟩ := kL hs w
   have := run_loadCells_list (P := C.P) w ⟨b, o, none⟩ vs (fun j v hj => by rw [Addr.eO]; exact hw w hi j v hj)
   rw [hn] at this
   simp [execOp, ha.eval hx, Instr.loadAt, Instr.sureAddr, loadVar, h1, h2, this]
  exact ⟨w, .inl hr, hi, fun _ => hr⟩
theorem dv {x : Operand} {t n b o T : Nat} {cs vs : List Value} (hs : fT C.P t = some n) (hx : ao E x = some (.pointer (some ⟨b, o, none⟩))) (hm : ai b T cs ∈ L) (hn : vs.length = n) (hv : (cs.drop o).take n = vs) : bC C (.load t x) ty E L (.agg vs.toArray) L :=
 tM hs hx hn fun w hi j v hj => by
  obtain ⟨F, hF⟩ := hi.mem hm
  rw [hF.hJ, ← hj, ← hv]
  have : j < n := by
   have := (List.getElem?_eq_some_iff.1 hj).1
   omega
  simp [List.getElem?_take, this, List.getElem?_drop]
theorem dK {x y : Operand} {t b o T : Nat} {cs cs' : List Value} {u : Value} (hs : bZ C.P t = true) (hx : ao E x = some (.pointer (some ⟨b, o, none⟩))) (hy : ao E y = some u) (h1 : u.oneCell' = true)
  (hr : iV L (ai b T cs) (ai b T cs') L') (ho : o < cs.length) (hc : cs.set o u = cs') : bC C (.store t x y) ty E L undef L' := by
 intro d pos aft g a w ha hi
 obtain ⟨F, p1, p2⟩ := hr.perm
 have hi1 := hi.perm p1
 have hcell : w.cell? ⟨b, o, none⟩ = some cs[o] := by rw [hi1.hJ]; simp [ho]
 have hfr := hi1.sX o ho
 have hcs : u.cells = #[u] := by cases u <;> first | rfl | (simp [Value.oneCell'] at h1)
 obtain ⟨i, hinfo, hsz⟩ := zt hs
 refine ⟨w.setCell ⟨b, o, none⟩ u, .inr ⟨?_, rfl⟩, ?_, fun h => by cases h⟩
 ·have hst := run_store C.P w ⟨b, o, none⟩ u .plain h1
  simp [hcell, hfr] at hst
  simp [execOp, ha.eval hx, ha.eval hy, Instr.storeAt, Instr.sureAddr, storeVar, hcs, run_sizeOf hinfo, hsz, storeCells, Addr.eO, hst]
 ·rw [← hc] at p2
  exact (hi1.setCell o u).perm p2
theorem uF {t : TypeId} {zs : List Value} (hz : cu C.P t = some zs) : jI C (.alloc t) ty E L (fun v L' => ∃ b, v = .pointer (some ⟨b, 0, none⟩) ∧ L' = ai b t zs :: L) := by
 intro d pos aft g a w K Qx ha hi hK
 obtain ⟨i, z, h1, h2, h3, h4⟩ := jw hz
 have hr : (execOp a.eval ⟨d, .alloc t, ty, pos, aft, g⟩).run C.P w = .ok (.value (.pointer (some ⟨w.heap.size, 0, none⟩))) (w.alloc (.cells zs.toArray t)) := by
  simp [execOp, Instr.alloc, zeroValue, typeInfo, h1, h2, newVar, newRow, h3]
 unfold Oper.wp
 rw [hr]
 exact hK _ _ _ ⟨_, rfl, rfl⟩ (hi.alloc t zs)
theorem Uq {t : TypeId} {x : Operand} {u : Value} (hx : ao E x = some u) : jI C (.box t x) ty E L (fun v L' => ∃ b, v = .pointer (some ⟨b, 0, none⟩) ∧ L' = ai b t u.cells.toList :: L) := by
 intro d pos aft g a w K Qx ha hi hK
 have hr : (execOp a.eval ⟨d, .box t x, ty, pos, aft, g⟩).run C.P w = .ok (.value (.pointer (some ⟨w.heap.size, 0, none⟩))) (w.alloc (.cells u.cells.toList.toArray t)) := by
  simp [execOp, ha.eval hx, Instr.box, newVar, newRow]
 unfold Oper.wp
 rw [hr]
 exact hK _ _ _ ⟨_, rfl, rfl⟩ (hi.alloc t _)
theorem cS {t : TypeId} {zs : List Value} (hz : cu C.P t = some zs) (hd : Nat.blt d C.n = true) (k : ∀ b, cA C ops rest Q ((d, .pointer (some ⟨b, 0, none⟩)) :: E) (ai b t zs :: L)) : cA C ops (⟨some d, .alloc t, ty, pos, aft, none⟩ :: rest) Q E L :=
 nU (uF hz) hd fun v L' ⟨b, e1, e2⟩ => by subst e1; subst e2; exact k b
theorem jE {t : TypeId} {x : Operand} {u : Value} {cs : List Value} (hx : ao E x = some u) (hc : u.cells.toList = cs) (hd : Nat.blt d C.n = true) (k : ∀ b, cA C ops rest Q ((d, .pointer (some ⟨b, 0, none⟩)) :: E) (ai b t cs :: L)) : cA C ops (⟨some d, .box t x, ty, pos, aft, none⟩ :: rest) Q E L :=
 nU (Uq hx) hd fun v L' ⟨b, e1, e2⟩ => by subst e1; subst e2; subst hc; exact k b
theorem iB {w0 : World} {b T : Nat} : ∀ (us : List Value) (o i : Nat) (cs : List Value) (F : List ad) (w : World), (∀ u ∈ us, u.oneCell' = true) → o + i + us.length ≤ cs.length → Inv w0 (ai b T cs :: F) w →
  ∃ w', (storeCells ⟨b, o, none⟩ us i).run C.P w = .ok () w' ∧ Inv w0 (ai b T (cs.take (o + i) ++ us ++ cs.drop (o + i + us.length)) :: F) w'
 | [], o, i, cs, F, w, _, h, hi => ⟨w, rfl, by simpa using hi⟩
 | u :: us, o, i, cs, F, w, h1, h, hi => by
  simp only [List.length_cons] at h
  have hlt : o + i < cs.length := by omega
  have hcell : w.cell? ⟨b, o + i, none⟩ = some cs[o + i] := by rw [hi.hJ]; simp [hlt]
  have hfr := hi.sX (o + i) hlt
  have hst := run_store C.P w ⟨b, o + i, none⟩ u .plain (h1 u (by simp))
  simp [hcell, hfr] at hst
  obtain ⟨w', hr, hi'⟩ := iB us o (i + 1) (cs.set (o + i) u) F _ (fun x hx => h1 x (by simp [hx])) (by simp; omega) (hi.setCell (o + i) u)
  refine ⟨w', by simp [storeCells, Addr.eO, hst, hr], ?_⟩
  have e : (cs.set (o + i) u).take (o + (i + 1)) ++ us ++ (cs.set (o + i) u).drop (o + (i + 1) + us.length) = cs.take (o + i) ++ (u :: us) ++ cs.drop (o + i + (u :: us).length) := by
   have e1 : (cs.set (o + i) u).take (o + (i + 1)) = cs.take (o + i) ++ [u] := by
    apply List.ext_getElem?
    intro j
    simp only [List.getElem?_take, List.getElem?_set, List.getElem?_append, List.length_take]
    by_cases hj : j < o + i
    ·have : j < o + (i + 1) := by omega
     have h3 : ¬ (o + i = j) := by omega
     have h4 : j < min (o + i) cs.length := by omega
     simp [hj, this, h3, h4]
    ·by_cases hj2 : j = o + i
     ·subst hj2
      have : o + i < o + (i + 1) := by omega
      have h4 : ¬ (o + i < min (o + i) cs.length) := by omega
      have h5 : o + i - min (o + i) cs.length = 0 := by omega
      simp [this, hlt, h4, h5]
     ·have : ¬ j < o + (i + 1) := by omega
      have h4 : ¬ (j < min (o + i) cs.length) := by omega
      have h5 : ¬ (j - min (o + i) cs.length = 0) := by omega
      simp [this, h4, List.getElem?_cons, h5]
   have e2 : (cs.set (o + i) u).drop (o + (i + 1) + us.length) = cs.drop (o + i + (u :: us).length) := by
    rw [List.drop_set_of_lt (by omega)]
    congr 1
    simp; omega
   rw [e1, e2]
   simp
  rw [← e]
  exact hi'
theorem bb {x y : Operand} {t b o T n : Nat} {cs cs' us : List Value} (hs : fT C.P t = some n) (hx : ao E x = some (.pointer (some ⟨b, o, none⟩))) (hy : ao E y = some (.agg us.toArray)) (h1 : us.all Value.oneCell' = true) (hn : us.length = n)
  (hr : iV L (ai b T cs) (ai b T cs') L') (ho : o + n ≤ cs.length) (hc : cs.take o ++ us ++ cs.drop (o + n) = cs') : bC C (.store t x y) ty E L undef L' := by
 intro d pos aft g a w ha hi
 obtain ⟨F, p1, p2⟩ := hr.perm
 have hi1 := hi.perm p1
 obtain ⟨h2, h3⟩ := kL hs w
 obtain ⟨w', hst, hi'⟩ := iB (C := C) us o 0 cs F w (fun u hu => by simpa using List.all_eq_true.1 h1 u hu) (by omega) hi1
 refine ⟨w', .inr ⟨?_, rfl⟩, ?_, fun h => by cases h⟩
 ·simp [execOp, ha.eval hx, ha.eval hy, Instr.storeAt, Instr.sureAddr, storeVar, Value.cells, h3, hn, hst]
 ·simp only [Nat.add_zero, hn, hc] at hi'
  exact hi'.perm p2
end
end Go.Sl
namespace Go.Sl
open Go.RowKit (Below)
def az (P : Program) (f : FuncId) (args : List Value) (Pre : List ad) (Post : Ending → List ad → Prop) : Prop :=
 ∀ w0 F w, Inv w0 (Pre ++ F) w → Calls P f args.toArray w fun e w' => ∃ G, Inv w0 (G ++ F) w' ∧ Post e G
def aG (R : Value → List ad → Prop) : Ending → List ad → Prop := fun e G => ∃ v, e = .returned v ∧ R v G
theorem az.mono {P : Program} {f : FuncId} {args : List Value} {Pre : List ad} {Post Post' : Ending → List ad → Prop} (h : az P f args Pre Post) (hp : ∀ e G, Post e G → Post' e G) : az P f args Pre Post' :=
 fun w0 F w hi => (h w0 F w hi).mono fun e w' ⟨G, h1, h2⟩ => ⟨G, h1, hp e G h2⟩
theorem az.frame {P : Program} {f : FuncId} {args : List Value} {Pre : List ad} {R : Value → List ad → Prop} (h : az P f args Pre (aG R)) (M : List ad) : az P f args (Pre ++ M) (aG fun v G => ∃ G', R v G' ∧ G = G' ++ M) :=
 fun w0 F w hi => (h w0 (M ++ F) w (by rw [← List.append_assoc]; exact hi)).mono fun e w' ⟨G, h1, v, e1, h2⟩ => ⟨G ++ M, by rw [List.append_assoc]; exact h1, v, e1, G, h2, rfl⟩
def gL (E : Env) : List Operand → Option (List Value)
 | [] => some []
 | x :: xs => match ao E x with | some v => (match gL E xs with | some vs => some (v :: vs) | none => none) | none => none
theorem fk.gL {C : Ctx} {E : Env} {a : Act} (h : fk C E a) : ∀ {xs : List Operand} {vs : List Value}, gL E xs = some vs → xs.toArray.map a.eval = vs.toArray
 | [], vs, e => by simp only [Sl.gL] at e; cases e; simp
 | x :: xs, vs, e => by
  simp only [Sl.gL] at e
  split at e <;> try simp at e
  rename_i v hv
  split at e <;> try simp at e
  rename_i us hus
  subst e
  have := fk.gL h hus
  simp at this ⊢
  exact ⟨h.eval hv, this⟩
inductive eI : List ad → List ad → List ad → Prop
 | nil {L : List ad} : eI L [] L
 | cons {L M F Pre : List ad} {A : ad} : fM L A M → eI M Pre F → eI L (A :: Pre) F
theorem eI.perm {L Pre F : List ad} (h : eI L Pre F) : L.Perm (Pre ++ F) := by
 induction h with
 | nil => exact List.Perm.refl _
 | cons h _ ih => exact h.perm.trans (List.Perm.cons _ ih)
theorem fK {P : Program} {f : FuncId} (hb : ay P f = true) (vs : Array Value) (w : World) : (callFunc f vs).run P w = .ok (.enter f vs) w := by
 unfold ay at hb
 split at hb <;> try simp at hb
 rename_i fn hfn
 obtain ⟨h1, h2⟩ := hb
 have h3 : fn.body ≠ none := by intro e; rw [e] at h1; cases h1
 simp [callFunc, hfn, h2, h3]
section
variable {C : Ctx} {Q : QT} {E : Env} {L L' : List ad} {ops : Array Oper} {rest : List Oper} {d : Nat} {ty : TypeId} {pos : String} {aft : Array Edge} {op : Op} {v : Value}
theorem EY {f : FuncId} {args : List Operand} {tys : Array TypeId} {vs : List Value} {Pre F : List ad} {R : Value → List ad → Prop} (hS : az C.P f vs Pre (aG R)) (hb : ay C.P f = true) (hE : gL E args = some vs) (hL : eI L Pre F) :
  jI C (.call ⟨.value (.func f), args.toArray, tys⟩) ty E L (fun v L' => ∃ G, R v G ∧ L' = G ++ F) := by
 intro d pos aft g a w K Qx ha hi hK
 have hargs := ha.gL hE
 have hr : (execOp a.eval ⟨d, .call ⟨.value (.func f), args.toArray, tys⟩, ty, pos, aft, g⟩).run C.P w = .ok (.enter f vs.toArray) w := by
  simp only [execOp, resolve, hargs, Deferred.ofValue, Act.eval, invoke, Sem.run_bind, Sem.run_pure, Result.andThen_ok, Array.append_empty, Array.empty_append, fK hb]
 unfold Oper.wp
 rw [hr]
 refine (hS C.w0 F w (hi.perm hL.perm)).mono ?_
 rintro e w' ⟨G, h1, v, rfl, h2⟩
 exact hK v (G ++ F) w' ⟨G, h2, rfl⟩ h1
theorem aj {f : FuncId} {args : List Operand} {tys : Array TypeId} {vs : List Value} {Pre F : List ad} {R : Value → List ad → Prop} (hS : az C.P f vs Pre (aG R)) (hb : ay C.P f = true) (hE : gL E args = some vs) (hL : eI L Pre F) (hd : Nat.blt d C.n = true)
  (k : ∀ v G, R v G → cA C ops rest Q ((d, v) :: E) (G ++ F)) : cA C ops (⟨some d, .call ⟨.value (.func f), args.toArray, tys⟩, ty, pos, aft, none⟩ :: rest) Q E L :=
 nU (EY hS hb hE hL) hd fun v L' ⟨G, h1, e⟩ => by subst e; exact k v G h1
theorem Kl {f : FuncId} {t : Nat} {args : List Operand} {tys : Array TypeId} {vs fs cs : List Value} {Pre F : List ad} {R : Value → List ad → Prop} (hS : az C.P f (fs ++ vs ++ cs) Pre (aG R)) (hb : ay C.P f = true) (ht : E.get t = some (.func (.func f) fs.toArray cs.toArray)) (hE : gL E args = some vs) (hL : eI L Pre F) (hd : Nat.blt d C.n = true)
  (k : ∀ v G, R v G → cA C ops rest Q ((d, v) :: E) (G ++ F)) : cA C ops (⟨some d, .call ⟨.value (.tmp t), args.toArray, tys⟩, ty, pos, aft, none⟩ :: rest) Q E L := by
 intro a w ha hi
 refine wpList_plain rfl (fun K hK => ?_)
 have hargs := ha.gL hE
 have hev := ha.eval (x := .tmp t) ht
 have hr : (execOp a.eval ⟨some d, .call ⟨.value (.tmp t), args.toArray, tys⟩, ty, pos, aft, none⟩).run C.P w = .ok (.enter f (fs ++ vs ++ cs).toArray) w := by
  simp only [execOp, resolve, hargs, hev, Deferred.ofValue, invoke, Sem.run_bind, Sem.run_pure, Result.andThen_ok, fK hb]
  simp
 unfold Oper.wp
 rw [hr]
 refine (hS C.w0 F w (hi.perm hL.perm)).mono ?_
 rintro e w' ⟨G, h1, v, rfl, h2⟩
 exact hK _ _ (k v G h2 _ _ (ha.put (eU hd) _) h1)
inductive Drop : List ad → List ad → Prop
 | refl {L : List ad} : Drop L L
 | skip {A : ad} {L F : List ad} : Drop L F → Drop (A :: L) F
 | keep {A : ad} {L F : List ad} : Drop L F → Drop (A :: L) (A :: F)
theorem Drop.inv {w0 w : World} {L F : List ad} (h : Drop L F) : ∀ {M : List ad}, Inv w0 (M ++ L) w → Inv w0 (M ++ F) w := by
 induction h with
 | refl => exact fun h => h
 | @skip A L F _ ih => exact fun {M} h => ih ((h.perm List.perm_middle).tail)
 | @keep A L F _ ih =>
  intro M h
  have := ih (M := M ++ [A]) (by simpa using h)
  simpa using this
def Sub (L M : List ad) : Prop := ∀ (w0 w : World), Inv w0 L w → Inv w0 M w
theorem sub {L G M F : List ad} (h : eI L G M) (d : Drop M F) : Sub L (G ++ F) := fun _ _ hi => d.inv (hi.perm h.perm)
theorem Sub.trans {L M N : List ad} (h : Sub L M) (k : Sub M N) : Sub L N := fun w0 w hi => k w0 w (h w0 w hi)
theorem fold {A : ad} {B F : List ad} (hA : ∀ w0 h, bW w0 B h → A w0 h) : Sub (B ++ F) (A :: F) := fun w0 w hi => hi.cls (fun h s => hA w0 h s)
def ks (C : Ctx) (rs : Array ResultVar) (E : Env) (L : List ad) (v : Value) : Prop := ∀ fn a w, fn.results = rs → fk C E a → Inv C.w0 L w → (results fn a.tmps).run C.P w = .ok v w
theorem eK : ks C #[] E L (.tuple #[]) := fun fn a w hr ha hi => by simp [results, hr]
theorem av {t : Nat} (h : E.get t = some v) : ks C #[.tmp t] E L v := fun fn a w hr ha hi => by simp [results, hr, ha.get _ _ h]
theorem ez {t u : Nat} {v1 v2 : Value} (h1 : E.get t = some v1) (h2 : E.get u = some v2) : ks C #[.tmp t, .tmp u] E L (.tuple #[v1, v2]) := fun fn a w hr ha hi => by simp [results, hr, ha.get _ _ h1, ha.get _ _ h2]
theorem M0 {t u x : Nat} {v1 v2 v3 : Value} (h1 : E.get t = some v1) (h2 : E.get u = some v2) (h3 : E.get x = some v3) : ks C #[.tmp t, .tmp u, .tmp x] E L (.tuple #[v1, v2, v3]) := fun fn a w hr ha hi => by simp [results, hr, ha.get _ _ h1, ha.get _ _ h2, ha.get _ _ h3]
def oz (C : Ctx) (rs : Array ResultVar) (F : List ad) (Post : Ending → List ad → Prop) : QT := fun e E L => match e with
 | .normal => ∃ v G, ks C rs E L v ∧ Post (.returned v) G ∧ Sub L (G ++ F)
 | .ret => ∃ v G, ks C rs E L v ∧ Post (.returned v) G ∧ Sub L (G ++ F)
 | .panic ch => ∃ G, Post (.panicked ch) G ∧ Sub L (G ++ F)
 | _ => False
theorem af {rs : Array ResultVar} {F G : List ad} {R : Value → List ad → Prop} (hr : ks C rs E L v) (hR : R v G) (hs : Sub L (G ++ F)) : oz C rs F (aG R) .ret E L := ⟨v, G, hr, ⟨v, rfl, hR⟩, hs⟩
theorem gY {rs : Array ResultVar} {F G : List ad} {R : Value → List ad → Prop} (hr : ks C rs E L v) (hR : R v G) (hs : Sub L (G ++ F)) : oz C rs F (aG R) .normal E L := ⟨v, G, hr, ⟨v, rfl, hR⟩, hs⟩
def yq : Nat → List Value → Env
 | _, [] => []
 | i, v :: vs => (i, v) :: yq (i + 1) vs
theorem sb : ∀ (i : Nat) (vs : List Value) (d : Nat) (u : Value), (yq i vs).get d = some u → i ≤ d ∧ vs[d - i]? = some u
 | i, [], d, u, h => by cases h
 | i, v :: vs, d, u, h => by
  rw [yq, Env.ia] at h
  by_cases e : i = d
  ·subst e; simp at h; simp [h]
  ·simp only [e, if_false] at h
   obtain ⟨h1, h2⟩ := sb (i + 1) vs d u h
   refine ⟨by omega, ?_⟩
   rw [show d - i = d - (i + 1) + 1 by omega]
   simpa using h2
theorem au {P : Program} {f : FuncId} {fn : Func} {c : Code} {args : List Value} {Pre : List ad} {Post : Ending → List ad → Prop} {n : Nat} (E : Env) (hf : P.funcs[f]? = some fn) (hb : fn.body = some c) (hn : fn.ntmps = n) (hE : yq 0 args = E) (hl : Nat.ble args.length n = true)
  (h : ∀ w0 F, Wp ⟨P, w0, n, [], fun ch L => ∃ G, Post (.panicked ch) G ∧ Sub L (G ++ F)⟩ c (oz ⟨P, w0, n, [], fun ch L => ∃ G, Post (.panicked ch) G ∧ Sub L (G ++ F)⟩ fn.results F Post) E (Pre ++ F)) : az P f args Pre Post := by
 intro w0 F w hi
 have hl := Nat.le_of_ble_eq_true hl
 refine calls_of_wp hf hb (Code.wp_mono ?_ (h w0 F _ w ?_ hi))
 ·rintro e a w' ⟨E', L', ha', hi', hq⟩
  cases e with
  | normal => obtain ⟨v, G, h1, h2, h3⟩ := hq; exact ⟨ha'.defers, v, h1 fn a w' rfl ha' hi', G, h3 _ _ hi', h2⟩
  | ret => obtain ⟨v, G, h1, h2, h3⟩ := hq; exact ⟨ha'.defers, v, h1 fn a w' rfl ha' hi', G, h3 _ _ hi', h2⟩
  | panic ch => obtain ⟨G, h1, h2⟩ := hq; exact ⟨ha'.defers, G, h2 _ _ hi', h1⟩
  | exit _ => exact hq
  | goto _ => exact hq
  | outgrown => exact hq.elim
 ·refine ⟨rfl, ?_, ?_⟩
  ·simp [hn]; omega
  ·intro d v hd
   rw [← hE] at hd
   obtain ⟨_, h2⟩ := sb 0 args d v hd
   have hlt := (List.getElem?_eq_some_iff.1 h2).1
   simp at h2 hlt ⊢
   rw [Array.getElem?_append_left (by simpa using hlt)]
   simpa using h2
def oE (w0 : World) (h : Hp) (a : Addr) : Option Value := match h a.block with
 | some (.cells c _ _) => if a.spot.isSome then none else c[a.off]?
 | some _ => none
 | none => if a.block < w0.heap.size then w0.cell? a else none
theorem sW {w0 w : World} {h : Hp} {a : Addr} {u : Value} (hb : Below w0.heap.size w0 w) (hh : ∀ b o, h b = some o → w0.heap.size ≤ b ∧ w.heap[b]? = some o) (e : oE w0 h a = some u) : w.cell? a = some u := by
 unfold oE at e
 split at e
 ·rename_i c T fr hc
  have := (hh _ _ hc).2
  simp only [World.cell?, this]
  exact e
 ·cases e
 ·split at e
  ·rename_i hlt; rw [hb.cell hlt]; exact e
  ·cases e
def Rd (p : Option Addr) (n sz : Nat) (vs : List Value) : ad := fun w0 h => vs.length = n * sz ∧ (n = 0 ∨ ∃ b o, p = some ⟨b, o, none⟩ ∧ ∀ i v, vs[i]? = some v → oE w0 h ⟨b, o + i, none⟩ = some v)
def Sl (p : Option Addr) (n cap : Nat) (T : TypeId) (sz : Nat) (vs : List Value) : ad := fun w0 h =>
 (p = none ∧ n = 0 ∧ cap = 0 ∧ vs = []) ∨
 ∃ b o pre post, p = some ⟨b, o, none⟩ ∧ ai b T (pre ++ vs ++ post) w0 h ∧ pre.length = o ∧ vs.length = n * sz ∧ (cap - n) * sz ≤ post.length ∧ n ≤ cap
theorem Sl.rd {p : Option Addr} {n cap T sz : Nat} {vs : List Value} {w0 : World} {h : Hp} (hs : Sl p n cap T sz vs w0 h) : Rd p n sz vs w0 h := by
 rcases hs with ⟨rfl, rfl, rfl, rfl⟩ | ⟨b, o, pre, post, rfl, h1, h2, h3, h4, h5⟩
 ·exact ⟨by simp, .inl rfl⟩
 ·refine ⟨h3, .inr ⟨b, o, rfl, fun i v hv => ?_⟩⟩
  obtain ⟨_, h1⟩ := h1
  have hlt := (List.getElem?_eq_some_iff.1 hv).1
  simp only [oE, h1, Option.isSome_none, Bool.false_eq_true, if_false, List.getElem?_toArray]
  rw [List.append_assoc, List.getElem?_append_right (by omega), h2, show o + i - o = i by omega, List.getElem?_append_left hlt, hv]
theorem Inv.rd {w0 w : World} {L : List ad} {R : ad} {p : Option Addr} {n sz : Nat} {vs : List Value} (hi : Inv w0 L w) (hm : R ∈ L) (hR : ∀ h, R w0 h → Rd p n sz vs w0 h) :
  vs.length = n * sz ∧ (n = 0 ∨ ∃ b o, p = some ⟨b, o, none⟩ ∧ ∀ i v, vs[i]? = some v → w.cell? ⟨b, o + i, none⟩ = some v) := by
 obtain ⟨F, hb, h, a, h1, h2, d, l1, l2, hp, k⟩ := hi.mem hm
 obtain ⟨e1, e2⟩ := hR h1 hp
 refine ⟨e1, e2.imp id ?_⟩
 rintro ⟨b, o, rfl, hc⟩
 exact ⟨b, o, rfl, fun i v hv => sW hb (fun b o e => a b o (l1 b o e)) (hc i v hv)⟩
theorem Inv.uJ {w0 w : World} {L : List ad} {A : ad} (hi : Inv w0 L w) (hA : A w0 (fun _ => none)) : Inv w0 (A :: L) w :=
 ⟨hi.below, let ⟨h, a, k⟩ := hi.heap; ⟨h, a, fun _ => none, h, fun _ => .inl rfl, fun _ _ e => by simp at e, Hp.le_refl _, hA, k⟩⟩
theorem DR {p : Prop} (h : ∀ w, Inv C.w0 L w → p) (k : p → cA C ops rest Q E L) : cA C ops rest Q E L := fun a w ha hi => k (h w hi) a w ha hi
theorem gr {c : Code} {p : Prop} (h : ∀ w, Inv C.w0 L w → p) (k : p → Wp C c Q E L) : Wp C c Q E L := fun a w ha hi => k (h w hi) a w ha hi
theorem Gt {w0 w : World} {L : List ad} {p : Option Addr} {n cap T sz : Nat} {vs : List Value} (hi : Inv w0 L w) (hm : Sl p n cap T sz vs ∈ L) :
  vs.length = n * sz ∧ n ≤ cap ∧ (n = 0 ∨ ∃ b o, p = some ⟨b, o, none⟩) := by
 obtain ⟨F, hb, h, a, h1, h2, d, l1, l2, hp, k⟩ := hi.mem hm
 rcases hp with ⟨rfl, rfl, rfl, rfl⟩ | ⟨b, o, pre, post, rfl, e1, e2, e3, e4, e5⟩
 ·exact ⟨by simp, Nat.le_refl _, .inl rfl⟩
 ·exact ⟨e3, e5, .inr ⟨b, o, rfl⟩⟩
theorem jZ {x : Operand} {t ty' : TypeId} {e : TypeId} {p : Option Addr} {n cap : Nat} (ht : C.P.underlying t = some (.slice e)) (h : ao E x = some (.slice p n cap)) : bC C (.call ⟨.builtin .len, [x].toArray, #[t]⟩) ty E L (.int .i64 n) L :=
 cM fun d pos aft g a w ha => by simp [execOp, resolve, invoke, builtin, Builtin.len_, ha.eval h, run_underlying ht, goInt]
theorem IA {x : Operand} {t ty' : TypeId} {e : TypeId} {p : Option Addr} {n cap : Nat} (ht : C.P.underlying t = some (.slice e)) (h : ao E x = some (.slice p n cap)) : bC C (.call ⟨.builtin .cap, [x].toArray, #[t]⟩) ty E L (.int .i64 cap) L :=
 cM fun d pos aft g a w ha => by simp [execOp, resolve, invoke, builtin, Builtin.cap_, ha.eval h, run_underlying ht, goInt]
theorem H9 {x y : Operand} {tys : Array TypeId} {k : IntKind} {m n : Int} (hx : ao E x = some (.int k m)) (hy : ao E y = some (.int k n)) : bC C (.call ⟨.builtin .min, [x, y].toArray, tys⟩) ty E L (.int k (if n < m then n else m)) L :=
 cM fun d pos aft g a w ha => by simp [execOp, resolve, invoke, builtin, Builtin.min_, Builtin.min2, ha.eval hx, ha.eval hy]
theorem BA {x y : Operand} {tys : Array TypeId} {k : IntKind} {m n : Int} (hx : ao E x = some (.int k m)) (hy : ao E y = some (.int k n)) : bC C (.call ⟨.builtin .max, [x, y].toArray, tys⟩) ty E L (.int k (if m < n then n else m)) L :=
 cM fun d pos aft g a w ha => by simp [execOp, resolve, invoke, builtin, Builtin.max_, Builtin.max2, ha.eval hx, ha.eval hy]
theorem Gq {x y : Operand} {t b o q n cap T sz : Nat} {vs vs' : List Value} {u : Value} (i : Nat) (hs : bZ C.P t = true) (hx : ao E x = some (.pointer (some ⟨b, q, none⟩))) (hy : ao E y = some u) (h1 : u.oneCell' = true)
  (hr : iV L (Sl (some ⟨b, o, none⟩) n cap T sz vs) (Sl (some ⟨b, o, none⟩) n cap T sz vs') L') (hq : q = o + i) (hlt : i < vs.length) (hc : vs.set i u = vs') : bC C (.store t x y) ty E L undef L' := by
 intro d pos aft g a w ha hi
 obtain ⟨F, p1, p2⟩ := hr.perm
 obtain ⟨⟨b', o', pre, post⟩, ⟨e1, e2, e3, e4, e5⟩, hi1⟩ := (hi.perm p1).vB (ι := Nat × Nat × List Value × List Value) (K := fun z => (some (⟨b, o, none⟩ : Addr) = some ⟨z.1, z.2.1, none⟩) ∧ z.2.2.1.length = z.2.1 ∧ vs.length = n * sz ∧ (cap - n) * sz ≤ z.2.2.2.length ∧ n ≤ cap)
  (B := fun z => [ai z.1 T (z.2.2.1 ++ vs ++ z.2.2.2)]) (by
   rintro h (⟨e, _⟩ | ⟨b', o', pre, post, e1, e2, e3, e4, e5, e6⟩)
   ·cases e
   ·exact ⟨(b', o', pre, post), ⟨e1, e3, e4, e5, e6⟩, h, fun _ => none, fun _ => .inr rfl, Hp.le_refl _, fun _ _ e => by simp at e, e2, trivial⟩)
 simp only at e1 e2 e3 e4 e5 hi1
 cases e1
 subst hq
 obtain ⟨w', hr1, hi2, _⟩ := dK (C := C) (E := E) (ty := ty) (o := o + i) (cs := pre ++ vs ++ post) (cs' := pre ++ vs' ++ post) hs hx hy h1 (iV.head (L := F)) (by simp; omega) (by
  rw [← hc, List.append_assoc, List.set_append_right _ _ (by omega), show o + i - pre.length = i by omega, List.set_append_left _ _ hlt, List.append_assoc]) d pos aft g a w ha hi1
 refine ⟨w', hr1, ?_, fun h => by cases h⟩
 refine Inv.perm ?_ p2
 refine Inv.cls (B := [ai b T (pre ++ vs' ++ post)]) ?_ hi2
 rintro h ⟨h1, h2, _, l1, _, c, _⟩
 exact .inr ⟨b, o, pre, post, rfl, c.mono l1, e2, by rw [← hc]; simpa using e3, e4, e5⟩
def dq (p : Option Addr) (l m sz : Nat) : Option Addr := if m = l then p else p.map (·.add (l * sz))
theorem mI (p : Option Addr) (m sz : Nat) : dq p 0 m sz = p := by
 unfold dq
 split
 ·rfl
 ·cases p <;> simp [Addr.add]
theorem DQ (b o l m sz : Nat) (h : l < m) : dq (some ⟨b, o, none⟩) l m sz = some ⟨b, o + l * sz, none⟩ := by
 unfold dq
 rw [if_neg (by omega)]
 simp [Addr.eO]
theorem eb {x : Operand} {lo hi mx : Option Operand} {t e sz bF n cap : Nat} {p : Option Addr} (l r m : Nat) (ht : sliceB C.P t = some (e, sz, bF)) (hx : ao E x = some (.slice p n cap))
  (hl : match lo with | none => l = 0 | some z => ∃ k, ao E z = some (.int k (l : Int)))
  (hr : match hi with | none => r = n ∧ mx = none | some z => ∃ k, ao E z = some (.int k (r : Int)))
  (hm : match mx with | none => m = cap | some z => ∃ k, ao E z = some (.int k (m : Int)))
  (h1 : l ≤ r) (h2 : r ≤ m) (h3 : m ≤ cap) : bC C (.slice t x lo hi mx) ty E L (.slice (dq p l m sz) (r - l) (m - l)) L :=
 cM fun d pos aft g a w ha => by
  obtain ⟨e1, i, e2, e3, e4⟩ := iP ht
  have key : ∀ (z : Operand) (j y : Nat) (c : BoundsCode) k, ao E z = some (.int k (j : Int)) → j ≤ y → (Instr.sliceBound (a.eval z) y c).run C.P w = .ok j w := by
   intro z j y c k hz hj
   have : (j : Int) ≤ (y : Int) := by omega
   simp [Instr.sliceBound, ha.eval hz, asIntOf, hj]
  have hb : (Instr.sliceBounds true n cap (lo.map a.eval) (hi.map a.eval) (mx.map a.eval)).run C.P w = .ok (l, r, m) w := by
   unfold Instr.sliceBounds
   cases mx with
   | none =>
    simp only at hm
    subst hm
    cases hi with
    | none =>
     simp only at hr
     obtain ⟨rfl, _⟩ := hr
     cases lo with
     | none => simp only at hl; subst hl; simp
     | some z => simp only at hl; obtain ⟨k, hz⟩ := hl; simp [key z l _ _ k hz h1]
    | some y =>
     simp only at hr
     obtain ⟨k', hy⟩ := hr
     cases lo with
     | none => simp only at hl; subst hl; simp [key y r _ _ k' hy h2]
     | some z => simp only at hl; obtain ⟨k, hz⟩ := hl; simp [key z l _ _ k hz h1, key y r _ _ k' hy h2]
   | some u =>
    simp only at hm
    obtain ⟨k2, hu⟩ := hm
    cases hi with
    | none => simp at hr
    | some y =>
     simp only at hr
     obtain ⟨k', hy⟩ := hr
     cases lo with
     | none => simp only at hl; subst hl; simp [key y r _ _ k' hy h2, key u m _ _ k2 hu h3]
     | some z => simp only at hl; obtain ⟨k, hz⟩ := hl; simp [key z l _ _ k hz h1, key y r _ _ k' hy h2, key u m _ _ k2 hu h3]
  simp [execOp, ha.eval hx, Instr.sliceAt, run_underlying e1, Instr.slice, hb, run_sizeOf e2, e3, dq]
end
end Go.Sl
namespace Go.Sl
open Go.RowKit (Below)
theorem Sl.open_ {p : Option Addr} {n cap T sz : Nat} {vs : List Value} (w0 : World) (h : Hp) (hs : Sl p n cap T sz vs w0 h) :
  ∃ z : Option (Nat × Nat × List Value × List Value), (match z with
   | none => p = none ∧ n = 0 ∧ cap = 0 ∧ vs = []
   | some (b, o, pre, post) => p = some ⟨b, o, none⟩ ∧ pre.length = o ∧ vs.length = n * sz ∧ (cap - n) * sz ≤ post.length ∧ n ≤ cap) ∧
   bW w0 (match z with | none => [] | some (b, o, pre, post) => [ai b T (pre ++ vs ++ post)]) h := by
 rcases hs with ⟨rfl, rfl, rfl, rfl⟩ | ⟨b, o, pre, post, e1, e2, e3, e4, e5, e6⟩
 ·exact ⟨none, ⟨rfl, rfl, rfl, rfl⟩, trivial⟩
 ·exact ⟨some (b, o, pre, post), ⟨e1, e3, e4, e5, e6⟩, h, fun _ => none, fun _ => .inr rfl, Hp.le_refl _, fun _ _ e => by simp at e, e2, trivial⟩
theorem Sl.mk {b o n cap T sz : Nat} {pre vs post : List Value} {w0 : World} {h : Hp} (hc : bW w0 [ai b T (pre ++ vs ++ post)] h) (h1 : pre.length = o) (h2 : vs.length = n * sz) (h3 : (cap - n) * sz ≤ post.length) (h4 : n ≤ cap) : Sl (some ⟨b, o, none⟩) n cap T sz vs w0 h := by
 obtain ⟨g, g2, _, l1, _, c, _⟩ := hc
 exact .inr ⟨b, o, pre, post, rfl, c.mono l1, h1, h2, h3, h4⟩
theorem ai.sl {b n T sz : Nat} {vs : List Value} {w0 : World} {h : Hp} (hc : ai b T vs w0 h) (h2 : vs.length = n * sz) : Sl (some ⟨b, 0, none⟩) n n T sz vs w0 h :=
 .inr ⟨b, 0, [], [], rfl, by simpa using hc, rfl, h2, by simp, Nat.le_refl _⟩
theorem Sl.nil (T sz : Nat) (w0 : World) (h : Hp) : Sl none 0 0 T sz [] w0 h := .inl ⟨rfl, rfl, rfl, rfl⟩
theorem Inv.EA {w0 w : World} {L : List ad} (hi : Inv w0 L w) (T sz : Nat) : Inv w0 (Sl none 0 0 T sz [] :: L) w := hi.uJ (Sl.nil T sz _ _)
section
variable {C : Ctx} {Q : QT} {E : Env} {L L' : List ad} {ops : Array Oper} {rest : List Oper} {d : Nat} {ty : TypeId} {pos : String} {aft : Array Edge} {op : Op} {v : Value}
theorem SK (A : ad) (hA : A C.w0 (fun _ => none)) (k : cA C ops rest Q E (A :: L)) : cA C ops rest Q E L := fun a w ha hi => k a w ha (hi.uJ hA)
theorem iT {c : Code} (A : ad) (hA : A C.w0 (fun _ => none)) (k : Wp C c Q E (A :: L)) : Wp C c Q E L := fun a w ha hi => k a w ha (hi.uJ hA)
theorem TV {A B : ad} {F : List ad} (hr : fM L A F) (hA : ∀ h, A C.w0 h → B C.w0 h) (k : cA C ops rest Q E (B :: F)) : cA C ops rest Q E L := fun a w ha hi => k a w ha ((hi.perm hr.perm).imp hA)
theorem Tp {c : Code} {A B : ad} {F : List ad} (hr : fM L A F) (hA : ∀ h, A C.w0 h → B C.w0 h) (k : Wp C c Q E (B :: F)) : Wp C c Q E L := fun a w ha hi => k a w ha ((hi.perm hr.perm).imp hA)
theorem je {b : Builtin} {xs : List Operand} {tys : Array TypeId} {vs : List Value} {a : Act} (hx : xs.toArray.map a.eval = vs.toArray) (d : Option Nat) (g : Option (Nat × Bool)) (w : World) :
  ∃ consts, (execOp a.eval ⟨d, .call ⟨.builtin b, xs.toArray, tys⟩, ty, pos, aft, g⟩).run C.P w = (builtin b tys ty consts vs.toArray).run C.P w := by
 refine ⟨xs.toArray.map fun | .const _ => true | _ => false, ?_⟩
 simp only [execOp, resolve, hx, Sem.run_bind, Sem.run_pure, Result.andThen_ok, invoke]
 rfl
theorem yW {s x : Operand} {t e sz bF n m cap cap2 : Nat} {p p2 : Option Addr} {vs ws zs : List Value} {R : ad} {F : List ad}
  (ht : sliceB C.P t = some (e, sz, bF)) (hz : cu C.P e = some zs) (hsz : Nat.ble 1 sz = true) (hby : Nat.ble 1 bF = true)
  (hs : ao E s = some (.slice p n cap)) (hx : ao E x = some (.slice p2 m cap2))
  (hL : fM L (Sl p n cap e sz vs) F) (hm : R ∈ L) (hR : ∀ h, R C.w0 h → Rd p2 m sz ws C.w0 h) (h1 : ws.all Value.oneCell' = true) (hb : (n + m) * bF ≤ 140737488355328) :
  jI C (.call ⟨.builtin .append, [s, x].toArray, #[t, t]⟩) ty E L (fun v L' => ∃ p' cap', v = .slice p' (n + m) cap' ∧ L' = Sl p' (n + m) cap' e sz (vs ++ ws) :: F) := by
 intro d pos aft g a w K Qx ha hi hK
 obtain ⟨ht1, i, hi2, rfl, rfl⟩ := iP ht
 obtain ⟨i', z, hz1, hz2, hz3, hz4⟩ := jw hz
 rw [hi2] at hz1
 cases hz1
 have hsz := Nat.le_of_ble_eq_true hsz
 have hby := Nat.le_of_ble_eq_true hby
 have hnm : n + m ≤ (n + m) * i.bytes := Nat.le_mul_of_pos_right _ hby
 have hsmall : n + m ≤ 140737488355328 := by omega
 obtain ⟨hwl, hwc⟩ := hi.rd hm hR
 obtain ⟨consts, hrun⟩ := je (C := C) (ty := ty) (pos := pos) (aft := aft) (b := .append) (xs := [s, x]) (tys := #[t, t]) (vs := [.slice p n cap, .slice p2 m cap2]) (a := a) (by simp [ha.eval hs, ha.eval hx]) d g w
 suffices h : ∃ p' cap' w', (Builtin.append_ #[t, t] ty #[.slice p n cap, .slice p2 m cap2]).run C.P w = .ok (.slice p' (n + m) cap') w' ∧ Inv C.w0 (Sl p' (n + m) cap' e i.size (vs ++ ws) :: F) w' by
  obtain ⟨p', cap', w', hr, hi'⟩ := h
  unfold Oper.wp
  rw [hrun]
  simp only [builtin, Sem.run_bind, hr, Result.andThen_ok, Sem.run_pure]
  exact hK _ _ _ ⟨p', cap', rfl, rfl⟩ hi'
 have hfirst : ∀ w1 : World, (∀ q, w1.cell? q = w.cell? q) → (Builtin.firstCells i.size m (.slice p2 m cap2)).run C.P w1 = .ok ws.toArray w1 := by
  intro w1 hw1
  by_cases hm0 : m = 0
  ·subst hm0
   simp at hwl
   subst hwl
   cases p2 <;> simp [Builtin.firstCells, loadCells, loadCellsFrom]
  ·rcases hwc with hwc | ⟨b2, o2, rfl, hc⟩
   ·exact absurd hwc hm0
   ·exact run_firstCells_some (P := C.P) w1 i.size m _ m cap2 ws hwl (fun j v hj => by rw [hw1, Addr.eO]; exact hc j v hj)
 have hall : ∀ u ∈ ws, u.oneCell' = true := fun u hu => by simpa using List.all_eq_true.1 h1 u hu
 have hgrow : ∀ (vs0 : List Value), vs0 = vs → n * i.size = vs.length → cap < n + m →
   (∀ w1 : World, (∀ q, w1.cell? q = w.cell? q) → (Builtin.firstCells i.size n (.slice p n cap)).run C.P w1 = .ok vs.toArray w1) →
   Inv C.w0 F w →
   ∃ p' cap' w', (Builtin.append_ #[t, t] ty #[.slice p n cap, .slice p2 m cap2]).run C.P w = .ok (.slice p' (n + m) cap') w' ∧ Inv C.w0 (Sl p' (n + m) cap' e i.size (vs ++ ws) :: F) w' := by
  intro vs0 _ hvl hlt hold hiF
  have hfit : Builtin.nextslicecap (n + m) cap * i.bytes ≤ 281474976710656 := growslice_fits hlt hb
  have h63 : ¬ (9223372036854775807 < ((n : Int) + (m : Int))) := by omega
  have h48 : ¬ (281474976710656 < Builtin.nextslicecap (n + m) cap * i.bytes) := by omega
  have hng : ¬ (n + m ≤ cap) := by omega
  refine ⟨some ⟨w.heap.size, 0, none⟩, grownCap w (n + m) cap e, w.drew.alloc (.cells (vs ++ ws ++ (Builtin.zeroCells z.cells (grownCap w (n + m) cap e - (n + m))).toList).toArray e), ?_, ?_⟩
  ·have e1 := hold w.drew (fun q => by simp)
   have e2 := hfirst w.drew (fun q => by simp)
   have harr : ∀ Z : Array Value, (vs ++ ws ++ Z.toList).toArray = vs.toArray ++ ws.toArray ++ Z := fun Z => by apply Array.ext'; simp
   rw [harr]
   simp [Builtin.append_, run_underlying ht1, sizeOf, typeInfo, zeroValue, hi2, hz2, Builtin.lenOf, hng, h63, h48, Question.forced, e1, e2, newRow, grownCap]
   congr 1
   congr 1
   apply Array.ext'
   simp
  ·have hge := grownCap_ge w (n + m) cap e
   refine Inv.imp ?_ (hiF.drew.alloc e (vs ++ ws ++ (Builtin.zeroCells z.cells (grownCap w (n + m) cap e - (n + m))).toList))
   intro h hc
   refine .inr ⟨_, 0, [], (Builtin.zeroCells z.cells (grownCap w (n + m) cap e - (n + m))).toList, rfl, by simpa using hc, rfl, ?_, ?_, hge⟩
   ·simp [← hvl, hwl, Nat.add_mul]
   ·have : z.cells.size = i.size := by rw [hz3, hz4]; simp
    simp [size_zeroCells, this]
 obtain ⟨zz, hzz, hi1⟩ := (hi.perm hL.perm).vB (Sl.open_ C.w0)
 cases zz with
 | none =>
  obtain ⟨rfl, rfl, rfl, rfl⟩ := hzz
  by_cases hm0 : m = 0
  ·subst hm0
   simp at hwl
   subst hwl
   refine ⟨none, 0, w, ?_, (hi1.EA e i.size)⟩
   have e1 := hfirst w (fun q => rfl)
   simp [Builtin.append_, run_underlying ht1, sizeOf, typeInfo, hi2, Builtin.lenOf, e1]
  ·exact hgrow [] rfl (by simp) (by omega) (fun w1 _ => by simp [Builtin.firstCells]) hi1
 | some zz =>
  obtain ⟨b, o, pre, post⟩ := zz
  obtain ⟨rfl, e1, e2, e3, e4⟩ := hzz
  by_cases hroom : n + m ≤ cap
  ·have hfit : o + n * i.size + ws.length ≤ (pre ++ vs ++ post).length := by
    have : (n + m - n) * i.size ≤ (cap - n) * i.size := Nat.mul_le_mul_right _ (by omega)
    rw [show n + m - n = m by omega] at this
    simp only [List.length_append, e1, e2, hwl]
    omega
   obtain ⟨w', hr, hi'⟩ := iB (C := C) ws (o + n * i.size) 0 _ _ w hall (by simpa using hfit) hi1
   refine ⟨some ⟨b, o, none⟩, cap, w', ?_, ?_⟩
   ·have hf := hfirst w (fun q => rfl)
    simp [Builtin.append_, run_underlying ht1, sizeOf, typeInfo, hi2, Builtin.lenOf, hroom, hf, Addr.eO, hr]
   ·refine Inv.cls (B := [ai b e (pre ++ (vs ++ ws) ++ post.drop ws.length)]) (fun h hc => Sl.mk hc e1 (by simp [e2, hwl, Nat.add_mul]) ?_ hroom) ?_
    ·simp only [List.length_drop, hwl]
     have : (cap - (n + m)) * i.size = (cap - n) * i.size - m * i.size := by rw [← Nat.sub_mul]; congr 1; omega
     omega
    ·have e5 : (pre ++ vs ++ post).take (o + n * i.size + 0) = pre ++ vs := by
      rw [Nat.add_zero]
      exact List.take_left' (by simp [e1, e2])
     have e6 : (pre ++ vs ++ post).drop (o + n * i.size + 0 + ws.length) = post.drop ws.length := by
      rw [Nat.add_zero, show o + n * i.size + ws.length = (pre ++ vs).length + ws.length by simp [e1, e2]]
      rw [← List.drop_drop, List.drop_left]
     rw [e5, e6] at hi'
     simpa [List.append_assoc] using hi'
  ·refine hgrow vs rfl e2.symm (by omega) (fun w1 hw1 => ?_) hi1.tail
   refine run_firstCells_some (P := C.P) w1 i.size n _ n cap vs e2 (fun j v hj => ?_)
   have hlt := (List.getElem?_eq_some_iff.1 hj).1
   rw [hw1, Addr.eO, Inv.hJ hi1]
   rw [List.append_assoc, List.getElem?_append_right (by omega), show o + j - pre.length = j by omega, List.getElem?_append_left hlt]
   exact hj
theorem NS {x y : Operand} {t e sz bF : Nat} {k1 k2 : IntKind} {i1 i2 : Int} {zs : List Value} (n c : Nat) (e1 : i1 = (n : Int)) (e2 : i2 = (c : Int)) (ht : sliceB C.P t = some (e, sz, bF)) (hz : cu C.P e = some zs) (hsz : Nat.ble 1 sz = true)
  (hx : ao E x = some (.int k1 i1)) (hy : ao E y = some (.int k2 i2)) (hnc : n ≤ c) (h63 : c ≤ 9223372036854775807) (hb : c * bF ≤ 281474976710656) :
  jI C (.makeSlice t x y) ty E L (fun v L' => ∃ b, v = .slice (some ⟨b, 0, none⟩) n c ∧ L' = Sl (some ⟨b, 0, none⟩) n c e sz ((List.replicate n zs).flatten) :: L) := by
 intro d pos aft g a w K Qx ha hi hK
 subst e1
 subst e2
 obtain ⟨ht1, i, hi2, rfl, rfl⟩ := iP ht
 obtain ⟨i', z, hz1, hz2, hz3, hz4⟩ := jw hz
 rw [hi2] at hz1
 cases hz1
 have hsz := Nat.le_of_ble_eq_true hsz
 have hc : ((c * i.bytes : Nat) : Int) = (i.bytes : Int) * (c : Int) := by rw [Int.natCast_mul, Int.mul_comm]
 have hr := run_make (P := C.P) w t e i z ht1 hi2 hz2 k1 k2 n c (by omega) (by omega) (by omega) (by omega)
 have hm : (madeCells z.cells (c * i.size)).toList = (List.replicate c zs).flatten := by
  have hzl : zs.length = i.size := hz4.symm
  apply List.ext_getElem?
  intro j
  by_cases hj : j < c * i.size
  ·have h1 : ((List.replicate c zs).flatten)[j]? = zs[j % i.size]? := by
    have hgen : ∀ (c j : Nat), j < c * zs.length → ((List.replicate c zs).flatten)[j]? = zs[j % zs.length]? := by
     intro c
     induction c with
     | zero => intro j h; simp at h
     | succ c ih =>
      intro j h
      simp only [List.replicate_succ, List.flatten_cons]
      by_cases hj : j < zs.length
      ·rw [List.getElem?_append_left hj, Nat.mod_eq_of_lt hj]
      ·rw [List.getElem?_append_right (by omega), ih _ (by rw [Nat.succ_mul] at h; omega)]
       congr 1
       exact (Nat.mod_eq_sub_mod (by omega)).symm
    have := hgen c j (by rw [hzl]; exact hj)
    rwa [hzl] at this
   rw [h1]
   have hlt : j % i.size < i.size := Nat.mod_lt _ (by omega)
   simp [madeCells, hz3, hj]
   rw [hzl]
   simp [hlt, hzl]
  ·rw [List.getElem?_eq_none, List.getElem?_eq_none]
   ·simp [hzl]; omega
   ·simp [madeCells]; omega
 have hrun : (execOp a.eval ⟨d, .makeSlice t x y, ty, pos, aft, g⟩).run C.P w = .ok (.value (.slice (some ⟨w.heap.size, 0, none⟩) n c)) (w.alloc (.cells ((List.replicate c zs).flatten).toArray e)) := by
  simp only [execOp, ha.eval hx, ha.eval hy, Sem.run_bind, hr, Result.andThen_ok, Sem.run_pure, Int.toNat_natCast]
  congr 2
  rw [← hm]
 unfold Oper.wp
 rw [hrun]
 refine hK _ _ _ ⟨_, rfl, rfl⟩ (Inv.imp (fun h hc => ?_) (hi.alloc e _))
 refine .inr ⟨_, 0, [], (List.replicate (c - n) zs).flatten, rfl, ?_, rfl, by simp [hz4], by simp [hz4], hnc⟩
 have : (List.replicate c zs).flatten = (List.replicate n zs).flatten ++ (List.replicate (c - n) zs).flatten := by
  rw [← List.flatten_append, List.replicate_append_replicate, show n + (c - n) = c by omega]
 simp only [List.nil_append]
 rw [← this]
 exact hc
theorem xr {t e sz bF len : Nat} {parts : List (Nat × Operand)} {pv : List (Nat × Value)} {zs vs : List Value} (ht : sliceB C.P t = some (e, sz, bF)) (hz : cu C.P e = some zs) (hsz : Nat.ble 1 sz = true) (hsm : Nat.ble (len * sz) 16777216 = true)
  (hp : ∀ a, fk C E a → parts.map (fun p => (p.1, a.eval p.2)) = pv) (hf : Instr.fill (fun i => some (i * sz, sz)) ((List.replicate len zs).flatten.toArray) pv = some vs.toArray) (hl : vs.length = len * sz) :
  jI C (.buildSlice t len parts.toArray) ty E L (fun v L' => ∃ b, v = .slice (some ⟨b, 0, none⟩) len len ∧ L' = Sl (some ⟨b, 0, none⟩) len len e sz vs :: L) := by
 intro d pos aft g a w K Qx ha hi hK
 obtain ⟨ht1, i, hi2, rfl, rfl⟩ := iP ht
 obtain ⟨i', z, hz1, hz2, hz3, hz4⟩ := jw hz
 rw [hi2] at hz1
 cases hz1
 have hsz := Nat.le_of_ble_eq_true hsz
 have hsm := Nat.le_of_ble_eq_true hsm
 have hzl : zs.length = i.size := hz4.symm
 have hgen : ∀ (c j : Nat), j < c * zs.length → ((List.replicate c zs).flatten)[j]? = zs[j % zs.length]? := by
  intro c
  induction c with
  | zero => intro j h; simp at h
  | succ c ih =>
   intro j h
   simp only [List.replicate_succ, List.flatten_cons]
   by_cases hj : j < zs.length
   ·rw [List.getElem?_append_left hj, Nat.mod_eq_of_lt hj]
   ·rw [List.getElem?_append_right (by omega), ih _ (by rw [Nat.succ_mul] at h; omega)]
    congr 1
    exact (Nat.mod_eq_sub_mod (by omega)).symm
 have hzero : ∀ zz : Array Value, (len * i.size = 0 → zz = #[]) → (len * i.size ≠ 0 → zz = zs.toArray) → (Array.range (len * i.size)).map (zz[· % zz.size]!) = (List.replicate len zs).flatten.toArray := by
  intro zz h0 h1
  apply Array.ext'
  simp only [Array.toList_map, Array.toList_range]
  apply List.ext_getElem?
  intro j
  by_cases hj : j < len * i.size
  ·rw [h1 (by omega)]
   have hlt : j % i.size < i.size := Nat.mod_lt _ (by omega)
   rw [hgen len j (by rw [hzl]; exact hj), hzl]
   simp [hj, hzl, hlt]
  ·rw [List.getElem?_eq_none, List.getElem?_eq_none]
   ·simp [hzl]; omega
   ·simp; omega
 have hmap : parts.toArray.map (fun x => match x with | (i, x) => (i, a.eval x)) = pv.toArray := by
  rw [← hp a ha]
  simp
 have hrun : (execOp a.eval ⟨d, .buildSlice t len parts.toArray, ty, pos, aft, g⟩).run C.P w = .ok (.value (.slice (some ⟨w.heap.size, 0, none⟩) len len)) (w.alloc (.cells vs.toArray e)) := by
  have h16 : ¬ (len * i.size > 2 ^ 24) := by omega
  simp only [execOp, hmap, Instr.buildSlice, Sem.run_bind, run_underlying ht1, Result.andThen_ok, run_sizeOf hi2, if_neg h16]
  by_cases h0 : len * i.size = 0
  ·have e := hzero #[] (fun _ => rfl) (fun h => absurd h0 h)
   simp only [if_pos h0, Sem.run_bind, Sem.run_pure, Result.andThen_ok, e, hf]
   simp [newRow]
  ·have e := hzero zs.toArray (fun h => absurd h h0) (fun _ => rfl)
   simp only [if_neg h0, Sem.run_bind, Sem.run_pure, Result.andThen_ok, zeroValue, typeInfo, run_program, hi2, hz2, hz3, e, hf]
   simp [newRow]
 unfold Oper.wp
 rw [hrun]
 exact hK _ _ _ ⟨_, rfl, rfl⟩ (Inv.imp (fun h hc => ai.sl hc hl) (hi.alloc e vs))
def ow (E : Env) : List (Nat × Operand) → Option (List (Nat × Value))
 | [] => some []
 | (i, x) :: xs => match ao E x with | some v => (match ow E xs with | some vs => some ((i, v) :: vs) | none => none) | none => none
theorem mD : ∀ {ps : List (Nat × Operand)} {pv : List (Nat × Value)}, ow E ps = some pv → ∀ a, fk C E a → ps.map (fun p => (p.1, a.eval p.2)) = pv
 | [], pv, h, a, ha => by simp only [ow] at h; cases h; rfl
 | (i, x) :: ps, pv, h, a, ha => by
  simp only [ow] at h
  split at h <;> try simp at h
  rename_i v hv
  split at h <;> try simp at h
  rename_i vs hvs
  subst h
  simp [ha.eval hv, mD hvs a ha]
def eC (P : Program) (t : TypeId) : Option (List (Nat × Nat)) := match P.underlying t with
 | some (.struct fs) => fs.toList.mapM fun f => match P.info? f.type with | some i => some (f.offset, i.size) | none => none
 | _ => none
theorem cn {t : TypeId} {parts : List (Nat × Operand)} {pv : List (Nat × Value)} {zs cs : List Value} {pl : List (Nat × Nat)} (hpl : eC C.P t = some pl) (hz : cu C.P t = some zs) (hp : ow E parts = some pv) (hf : Instr.fill (pl.toArray[·]?) zs.toArray pv = some cs.toArray) :
  bC C (.build t parts.toArray) ty E L (.agg cs.toArray) L :=
 cM fun d pos aft g a w ha => by
  obtain ⟨i', z, hz1, hz2, hz3, hz4⟩ := jw hz
  have hmap : parts.toArray.map (fun x => match x with | (i, x) => (i, a.eval x)) = pv.toArray := by
   rw [← mD hp a ha]; simp
  unfold eC at hpl
  split at hpl
  ·rename_i fs hfs
   have hplaces : ((fs.mapM fun f => do pure (f.offset, ← sizeOf f.type)) : Sem (Array (Nat × Nat))).run C.P w = .ok pl.toArray w := by
    have hgen : ∀ (l : List Field) (pl : List (Nat × Nat)), l.mapM (fun f => match C.P.info? f.type with | some i => some (f.offset, i.size) | none => none) = some pl →
      ((l.mapM fun f => do pure (f.offset, ← sizeOf f.type)) : Sem (List (Nat × Nat))).run C.P w = .ok pl w := by
     intro l
     induction l with
     | nil => intro pl h; simp at h; subst h; simp
     | cons f l ih =>
      intro pl h
      simp only [List.mapM_cons] at h ⊢
      cases hi : C.P.info? f.type with
      | none => simp [hi] at h
      | some i =>
       simp only [hi] at h
       cases hl : l.mapM (fun f => match C.P.info? f.type with | some i => some (f.offset, i.size) | none => none) with
       | none => simp [hl] at h
       | some pl' =>
        simp [hl] at h
        subst h
        have := ih pl' hl
        simp only [Sem.run_bind, run_sizeOf hi, Result.andThen_ok, Sem.run_pure, this]
    rw [Array.mapM_eq_mapM_toList]
    have := hgen fs.toList pl hpl
    simp only [Sem.run_map, this, Result.andThen_ok]
   simp only [execOp, hmap, Instr.build, Sem.run_bind, zeroValue, typeInfo, run_program, Result.andThen_ok, hz1, hz2, Sem.run_pure, run_underlying hfs, hplaces, hz3]
   simp only [List.getElem?_toArray] at hf ⊢
   simp [hf]
  ·cases hpl
end
end Go.Sl
namespace Go.Sl
open Go.RowKit (Below)
def dI (y : Nat → Value) (i : Nat) (v : Value) : Nat → Value := fun j => if j = i then v else y j
theorem mf (y : Nat → Value) (i : Nat) (v : Value) : dI y i v i = v := by simp [dI]
theorem zc {y : Nat → Value} {i j : Nat} {v : Value} (h : j ≠ i) : dI y i v j = y j := by simp [dI, h]
def QX (C : Ctx) := { Q : Exit → Act → World → Prop // ∀ ch E L a w, fk C E a → Inv C.w0 L w → C.X ch L → Q (.panic ch) a w }
def Step (C : Ctx) (ops : Array Oper) (o : Oper) (E : Env) (L : List ad) (R : Value → List ad → Prop) : Prop :=
 ∀ a w (K : Act → World → Prop) (Q : QX C), fk C E a → Inv C.w0 L w → (∀ v L' w', R v L' → Inv C.w0 L' w' → K (a.put o.dst v) w') →
  (if Region.wanted o (yielded ops a.tmps) then o.wp C.P a w K Q.1 else K (a.put o.dst undef) w)
section
variable {C : Ctx} {ops : Array Oper} {E : Env} {L L' : List ad} {R : Value → List ad → Prop} {d : Option Nat} {ty : TypeId} {pos : String} {aft : Array Edge} {op : Op} {v : Value}
theorem uA (h : jI C op ty E L R) : Step C ops ⟨d, op, ty, pos, aft, none⟩ E L R := fun a w K Q ha hi hK => by
 rw [if_pos (by simp [Region.wanted])]
 exact h d pos aft none a w K Q.1 ha hi hK
theorem dD (h : bC C op ty E L v L') (hR : R v L') : Step C ops ⟨d, op, ty, pos, aft, none⟩ E L R :=
 uA (fun d pos aft g a w K Q ha hi hK => h.x d pos aft g a w K Q ha hi (fun v' M w' ⟨e1, e2⟩ hi' => hK v' M w' (by subst e1; subst e2; exact hR) hi'))
theorem gO {j : Nat} {want : Bool} (hg : iS ops E j = some want) (h : Step C ops ⟨d, op, ty, pos, aft, none⟩ E L R) : Step C ops ⟨d, op, ty, pos, aft, some (j, want)⟩ E L R := fun a w K Q ha hi hK => by
 have hw := jG (o := ⟨d, op, ty, pos, aft, some (j, want)⟩) ha hg rfl
 rw [if_pos (by rw [hw]; simp)]
 have h1 := h a w K Q ha hi hK
 rw [if_pos (by simp [Region.wanted])] at h1
 exact h1
theorem La {j : Nat} {want b : Bool} (hg : iS ops E j = some b) (hb : (b == want) = false) (hR : R undef L) : Step C ops ⟨d, op, ty, pos, aft, some (j, want)⟩ E L R := fun a w K Q ha hi hK => by
 have hw := jG (o := ⟨d, op, ty, pos, aft, some (j, want)⟩) ha hg rfl
 rw [if_neg (by rw [hw, hb]; simp)]
 exact hK _ _ _ hR hi
end
def lf (o : Oper) : List Nat := o.after.toList.filterMap fun e => if Region.binds .any e then some e.on else none
structure dJ where
 fy : List Nat
 iz : List Nat
 kW : List Nat
 lo : Nat
 hi : Nat
def mem (x : Nat) : List Nat → Bool
 | [] => false
 | y :: l => Nat.beq x y || mem x l
theorem mem_iff {x : Nat} : ∀ {l : List Nat}, mem x l = true ↔ x ∈ l
 | [] => by simp [mem]
 | y :: l => by
  simp only [mem, Bool.or_eq_true, List.mem_cons, mem_iff (l := l)]
  constructor
  ·rintro (h | h)
   ·exact .inl (Nat.eq_of_beq_eq_true h)
   ·exact .inr h
  ·rintro (h | h)
   ·exact .inl (by subst h; simp)
   ·exact .inr h
def ef (ps : List dJ) (i : Nat) : List Nat := match ps[i]? with | some p => p.fy | none => []
def dN (l : List Oper) (i : Nat) : Option Nat := match l[i]? with | some o => o.dst | none => none
def noSelect : Op → Bool
 | .select _ _ => false
 | _ => true
def EP (ps : List dJ) : List Nat → Bool
 | [] => true
 | c :: r => r.all (fun q => mem c (ef ps q)) && EP ps r
def xy (C : Ctx) (l : List Oper) (ps : List dJ) (ch : List Nat) (i : Nat) : Bool :=
 match l[i]?, ps[i]? with
 | some o, some p =>
  noSelect o.op &&
  (lf o).all (fun j => Nat.blt j i) &&
  p.fy.all (fun j => Nat.blt j i && (mem j (lf o) || (lf o).any (fun k => mem j (ef ps k)))) &&
  p.iz.all (fun j => mem j p.fy) &&
  p.kW.all (fun s => (List.range l.length).all fun j => match dN l j with | some t => !(Nat.beq t s) || Nat.beq j i || mem i (ef ps j) | none => true) &&
  (ch.take p.lo).all (fun c => mem c p.fy) && Nat.ble p.lo ch.length &&
  (match ch[p.hi]? with | some c => Nat.beq c i || mem i (ef ps c) | none => true) &&
  (match o.dst with
   | some t => Nat.blt t C.n && (List.range l.length).all (fun j => Nat.beq j i || (match dN l j with | some u => !(Nat.beq u t) | none => true))
   | none => true) &&
  (match o.guard with | some (j, _) => mem j p.iz | none => true)
 | _, _ => false
def ZA (C : Ctx) (l : List Oper) (ps : List dJ) (ch : List Nat) : Bool :=
 (List.range l.length).all (xy C l ps ch) && EP ps ch && ch.all (fun c => Nat.blt c l.length) &&
 (List.range ch.length).all (fun p => match ch[p]? with | some c => (match ps[c]? with | some q => Nat.beq q.lo p && Nat.beq q.hi p | none => false) | none => false)
def rj (l : List Oper) (E0 : Env) (p : dJ) (y : Nat → Value) : Env :=
 (p.iz.filterMap fun j => match dN l j with | some t => some (t, y j) | none => none) ++ p.kW.filterMap fun s => match E0.get s with | some v => some (s, v) | none => none
def rM (l : List Oper) (y : Nat → Value) : Nat → Env → Env
 | 0, E => E
 | i + 1, E => match dN l i with | some t => (t, y i) :: rM l y i E | none => rM l y i E
def Z4 (C : Ctx) (l : List Oper) (E0 : Env) (ps : List dJ) (ch : List Nat) (Φ : Nat → (Nat → Value) → Prop) (Lk : Nat → (Nat → Value) → List ad) (At : Nat → (Nat → Value) → List ad) (AP : List ad → Prop) (i : Nat) : Prop :=
 ∀ o p, l[i]? = some o → ps[i]? = some p → ∀ y k A, AP A → k ≤ ch.length → p.lo ≤ k → k ≤ p.hi → (∀ j ∈ p.fy, Φ j y) → (∀ j ∈ p.fy, ∀ B ∈ At j y, B ∈ A) →
  Step C l.toArray o (rj l E0 p y) (Lk k y ++ A) (fun v L' => ∃ A', AP A' ∧ Φ i (dI y i v) ∧ L'.Perm (Lk (if mem i ch then k + 1 else k) (dI y i v) ++ A') ∧ (∀ B ∈ A, B ∈ A') ∧ (∀ B ∈ At i (dI y i v), B ∈ A'))
theorem iE (m j : Nat) : (Array.replicate m false).getD j false = false := by
 rcases Nat.lt_or_ge j m with h | h
 ·simp [h]
 ·simp [h]
theorem o9 {listed : Array Bool} {i : Nat} (h : listed.getD i true = false) : listed.getD i false = false := by
 rcases Nat.lt_or_ge i listed.size with h' | h'
 ·simp [h'] at h ⊢; exact h
 ·simp [Array.getElem?_eq_none h'] at h
theorem Env.get_mem {d : Nat} {v : Value} : ∀ {E : Env}, E.get d = some v → (d, v) ∈ E
 | [], h => by cases h
 | (k, u) :: E, h => by
  rw [Env.ia] at h
  by_cases e : k = d
  ·subst e; simp at h; simp [h]
  ·simp only [e, if_false] at h; exact List.mem_cons_of_mem _ (Env.get_mem h)
section
variable {C : Ctx} {l : List Oper} {E0 : Env} {ps : List dJ} {ch : List Nat} {Φ : Nat → (Nat → Value) → Prop} {Lk At : Nat → (Nat → Value) → List ad} {AP : List ad → Prop}
def done (listed : Array Bool) (j : Nat) : Prop := listed.getD j false = true
structure ZI (C : Ctx) (l : List Oper) (E0 : Env) (ps : List dJ) (ch : List Nat) (Φ : Nat → (Nat → Value) → Prop) (Lk At : Nat → (Nat → Value) → List ad) (AP : List ad → Prop)
  (listed : Array Bool) (a : Act) (w : World) (y : Nat → Value) (A : List ad) (k : Nat) : Prop where
 size : listed.size = l.length
 xX : ∀ i, done listed i → ∀ j ∈ ef ps i, done listed j
 defers : a.defers = C.D
 tC : a.tmps.size = C.n
 Bn : ∀ i, done listed i → ∀ t, dN l i = some t → a.tmps[t]? = some (y i)
 Cu : ∀ s v, E0.get s = some v → (∀ j, done listed j → dN l j ≠ some s) → a.tmps[s]? = some v
 IF : ∀ i, done listed i → Φ i y
 ats : ∀ i, done listed i → ∀ B ∈ At i y, B ∈ A
 kle : k ≤ ch.length
 ap : AP A
 kdone : ∀ q c, q < k → ch[q]? = some c → done listed c
 kun : ∀ q c, k ≤ q → ch[q]? = some c → ¬ done listed c
 inv : Inv C.w0 (Lk k y ++ A) w
structure wE (C : Ctx) (l : List Oper) (ps : List dJ) (ch : List Nat) (i : Nat) (o : Oper) (p : dJ) : Prop where
 sel : ∀ cs b, o.op ≠ .select cs b
 TJ : ∀ j ∈ lf o, j < i
 fy : ∀ j ∈ p.fy, j < i ∧ (j ∈ lf o ∨ ∃ k ∈ lf o, j ∈ ef ps k)
 iz : ∀ j ∈ p.iz, j ∈ p.fy
 kW : ∀ s ∈ p.kW, ∀ j, dN l j = some s → j = i ∨ i ∈ ef ps j
 lo : ∀ c ∈ ch.take p.lo, c ∈ p.fy
 Zz : p.lo ≤ ch.length
 hi : ∀ c, ch[p.hi]? = some c → c = i ∨ i ∈ ef ps c
 dst : ∀ t, o.dst = some t → t < C.n ∧ ∀ j, j ≠ i → dN l j ≠ some t
 guard : ∀ j w, o.guard = some (j, w) → j ∈ p.iz
theorem r9 {i t : Nat} (h : dN l i = some t) : i < l.length := by
 unfold dN at h
 split at h
 ·rename_i o ho; exact (List.getElem?_eq_some_iff.1 ho).1
 ·cases h
theorem vQ {i : Nat} (h : xy C l ps ch i = true) : ∃ o p, l[i]? = some o ∧ ps[i]? = some p ∧ wE C l ps ch i o p := by
 unfold xy at h
 split at h
 ·rename_i o p ho hp
  simp only [Bool.and_eq_true] at h
  obtain ⟨⟨⟨⟨⟨⟨⟨⟨⟨h1, h2⟩, h3⟩, h4⟩, h5⟩, h6⟩, h7⟩, h8⟩, h9⟩, h10⟩ := h
  refine ⟨o, p, ho, hp, ?_, ?_, ?_, ?_, ?_, ?_, Nat.le_of_ble_eq_true h7, ?_, ?_, ?_⟩
  ·intro cs b e; rw [e] at h1; cases h1
  ·intro j hj; exact eU (List.all_eq_true.1 h2 j hj)
  ·intro j hj
   have := List.all_eq_true.1 h3 j hj
   simp only [Bool.and_eq_true, Bool.or_eq_true] at this
   refine ⟨eU this.1, ?_⟩
   rcases this.2 with h | h
   ·exact .inl (mem_iff.1 h)
   ·obtain ⟨k, hk, hk2⟩ := List.any_eq_true.1 h
    exact .inr ⟨k, hk, mem_iff.1 hk2⟩
  ·intro j hj; exact mem_iff.1 (List.all_eq_true.1 h4 j hj)
  ·intro s hs j hj
   have := List.all_eq_true.1 (List.all_eq_true.1 h5 s hs) j (List.mem_range.2 (r9 hj))
   simp only [hj, Bool.or_eq_true] at this
   rcases this with (h | h) | h
   ·simp at h
   ·exact .inl (Nat.eq_of_beq_eq_true h)
   ·exact .inr (mem_iff.1 h)
  ·intro c hc; exact mem_iff.1 (List.all_eq_true.1 h6 c hc)
  ·intro c hc
   rw [hc] at h8
   simp only [Bool.or_eq_true] at h8
   rcases h8 with h | h
   ·exact .inl (Nat.eq_of_beq_eq_true h)
   ·exact .inr (mem_iff.1 h)
  ·intro t ht
   rw [ht] at h9
   simp only [Bool.and_eq_true] at h9
   refine ⟨eU h9.1, fun j hj e => ?_⟩
   have := List.all_eq_true.1 h9.2 j (List.mem_range.2 (r9 e))
   simp only [e, Bool.or_eq_true] at this
   rcases this with h | h
   ·exact hj (Nat.eq_of_beq_eq_true h)
   ·simp at h
  ·intro j w hg
   rw [hg] at h10
   exact mem_iff.1 h10
 ·cases h
theorem zp {i : Nat} {o : Oper} {listed : Array Bool} (ho : l[i]? = some o) (hr : i ∈ Region.ready .any l.toArray listed) : listed.getD i true = false ∧ ∀ j ∈ lf o, done listed j := by
 obtain ⟨h1, o', ho', hall⟩ := mem_ready.1 hr
 have : o' = o := by
  have h2 : l[i]? = some o' := by simpa using ho'
  rw [h2] at ho; exact Option.some.inj ho
 subst this
 refine ⟨h1, fun j hj => ?_⟩
 obtain ⟨e, he, hb⟩ := List.mem_filterMap.1 hj
 split at hb
 ·rename_i hbind
  cases hb
  exact hall e (by simpa using he) hbind
 ·cases hb
end
end Go.Sl
namespace Go.Sl
open Go.RowKit (Below)
def ZG (l : List Oper) (E0 : Env) (p : dJ) (V : List Value) : Env :=
  (p.iz.filterMap fun j => match dN l j with | some t => (match V[j]? with | some v => some (t, v) | none => none) | none => none) ++ p.kW.filterMap fun s => match E0.get s with | some v => some (s, v) | none => none
def FV (l : List Oper) (V : List Value) : Nat → Env → Env
  | 0, E => E
  | i + 1, E => match dN l i with | some t => (match V[i]? with | some v => (t, v) :: FV l V i E | none => FV l V i E) | none => FV l V i E
section
variable {C : Ctx} {E0 : Env} {Q : QT} {L : List ad}
def XI (l : List Oper) (E0 : Env) (p : dJ) (i : Nat) (acc : List Value) : Env :=
  (p.iz.filterMap fun j => match dN l j with | some t => (match acc[i - 1 - j]? with | some v => some (t, v) | none => none) | none => none) ++ p.kW.filterMap fun s => match E0.get s with | some v => some (s, v) | none => none
def GC (l : List Oper) (n : Nat) (acc : List Value) : Nat → Env → Env
  | 0, E => E
  | i + 1, E => match dN l i with | some t => (match acc[n - 1 - i]? with | some v => (t, v) :: GC l n acc i E | none => GC l n acc i E) | none => GC l n acc i E
def Ym (C : Ctx) (l : List Oper) (E0 : Env) (ch : List Nat) (Ls : List (List ad)) : Nat → List Value → List Oper → List dJ → (List Value → Prop) → Prop
  | _, acc, [], [], K => K acc
  | i, acc, o :: os, p :: ps, K => ∃ v, (∀ k L, p.lo ≤ k → k ≤ p.hi → Ls[k]? = some L → Step C l.toArray o (XI l E0 p i acc) L (fun v' L' => v' = v ∧ (if mem i ch then ∃ L'', Ls[k + 1]? = some L'' ∧ L'.Perm L'' else L'.Perm L))) ∧ Ym C l E0 ch Ls (i + 1) (v :: acc) os ps K
  | _, _, _, _, _ => False
section
variable {l : List Oper} {ch : List Nat} {Ls : List (List ad)} {i : Nat} {acc : List Value} {o : Oper} {os : List Oper} {ps : List dJ} {v : Value} {K : List Value → Prop}
end
end
end Go.Sl

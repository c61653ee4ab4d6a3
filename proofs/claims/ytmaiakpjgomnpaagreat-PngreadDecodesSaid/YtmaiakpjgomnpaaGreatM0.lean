/- Walks of functions that the law reaches, and what they lean on; no conditions. -/
import Derived.KernelRfl
import Derived.Calls
import Derived.Below
import Derived.Tactics
import Derived.Orders
import Derived.Laws.Cells
import Derived.Laws.Entries
import Derived.Laws.Wrap64
set_option linter.defProp false
set_option maxHeartbeats 16000000
set_option maxRecDepth 100000
def Go.omg {p : Prop} (h : p := by omega) : p := h
def Go.dec {p : Prop} [Decidable p] (h : p := by decide) : p := h
abbrev Go.soz (b : Nat) : Option Go.Addr := some ⟨b, 0, none⟩
abbrev Go.hVz (a b c d : Int) (e : Bool) (p : Option Go.Addr) (n m : Nat) (q : Option Go.Addr) (k j : Nat) (l : List Go.Value) : List Go.Value := .int .i64 a :: .int .i64 b :: .int .i64 c :: .int .i64 d :: .bool e :: .slice p n m :: .slice q k j :: l
set_option linter.unusedVariables false
set_option linter.unusedSimpArgs false
set_option maxRecDepth 100000
namespace Go.Sl
variable {P Q:Prop}
def l6(h:Q→P:=by exact fun h=>rT TT 6 rfl h):Q→P:=h
def nC(h:Q→P:=by exact fun h=>rL TT 8 rfl h):Q→P:=h
def Q4(h:Q→P:=by exact fun h=>rC TT 4 rfl h):Q→P:=h
def Qv(h:Q→P:=by exact fun h=>nV (fun y hA L=>dw rfl rfl wI) h):Q→P:=h
def oH(h:Q→P:=by exact fun h=>nR (fun y FF hA=>xI V.cy (own ay)) h):Q→P:=h
def zT(h:Q→P:=by exact fun h=>nR (fun y FF hA=>xL V.s3 (own ay)) h):Q→P:=h
def yH(h:Q→P:=by exact fun h=>nE (fun y FF hA=>dm (mK (c:=(I3)) (_) V.s3 rfl rfl rfl (by exact ft) omg omg rfl rfl) ⟨rfl,.refl _⟩) h):Q→P:=h
def Qi(h:Q→P:=by exact fun h=>cZ h):Q→P:=h
def QF(h:Q→P:=by exact fun h=>eS h):Q→P:=h
def Q8(h:Q→P:=by exact fun h=>oV (jh rfl) h):Q→P:=h
def sF(h:Q→P:=by exact fun h=>oV (dw rfl rfl wI) h):Q→P:=h
def Ei(h:Q→P:=by exact fun h=>oV (jZ rfl) h):Q→P:=h
def QN(h:Q→P:=by exact fun h=>rC TT 10 rfl h):Q→P:=h
def Qa(h:Q→P:=by exact fun h=>rC TT 1 rfl h):Q→P:=h
def r9(h:Q→P:=by exact fun h=>mf TT 8 rfl omg h):Q→P:=h
def QU(h:Q→P:=by exact fun h=>jC TT 9 rfl omg h):Q→P:=h
def EL(h:Q→P:=by exact fun h=>mf TT 12 rfl omg h):Q→P:=h
def Qb(h:Q→P:=by exact fun h=>rC TT 5 rfl h):Q→P:=h
def lW(h:Q→P:=by exact fun h=>rC TT 11 rfl h):Q→P:=h
def yD(h:Q→P:=by exact fun h=>dv _ (fun y=>rfl) rfl rfl rfl (fun y hA L=>eR rfl (dm (jh rfl) ⟨rfl,rfl⟩)) (by intros;rfl) (by intro y y2 h;rfl) h):Q→P:=h
def Q6B(h:Q→P:=by exact fun h=>lM _ _ (fun y=>rfl) rfl (fun y=>rfl) rfl (fun y FF hA=>eR rfl (dm (xI V.cy (own ay)) ⟨rfl,rfl⟩)) (by intros;rfl) (by intro y y2 h;rfl) h):Q→P:=h
def ZS(h:Q→P:=by exact fun h=>lM _ _ (fun y=>rfl) rfl (fun y=>rfl) rfl (fun y FF hA=>eR rfl (dm (xL V.s3 (own ay)) ⟨rfl,rfl⟩)) (by intros;rfl) (by intro y y2 h;rfl) h):Q→P:=h
def UY(h:Q→P:=by exact fun h=>dv _ (fun y=>rfl) rfl rfl rfl (fun y hA L=>eR rfl (dm (k5 rfl rfl wI) ⟨rfl,rfl⟩)) (by intros;rfl) (by intro y y2 h;rfl) h):Q→P:=h
def Q6D(h:Q→P:=by exact fun h=>dv _ (fun y=>rfl) rfl rfl rfl (fun y hA L=>eR rfl (dm (dD rfl rfl) ⟨rfl,rfl⟩)) (by intros;rfl) (by intro y y2 h;rfl) h):Q→P:=h
def Q6E(h:Q→P:=by exact fun h=>bW _ (.cons (d:=0) rfl (.cons (d:=1) rfl (.cons (d:=2) rfl (.cons (d:=3) rfl (.cons (d:=8) rfl (.cons (d:=9) rfl (.cons (d:=34) rfl (.nil _)))))))) h):Q→P:=h
def vW(h:Q→P:=by exact fun h=>nV (fun y hA L=>k5 rfl rfl wI) h):Q→P:=h
def wM(h:Q→P:=by exact fun h=>mf TT 11 rfl omg h):Q→P:=h
def kH(h:Q→P:=by exact fun h=>dv _ (fun y=>rfl) rfl rfl rfl (fun y hA L=>RE rfl rfl ⟨rfl,rfl⟩) (by intros;rfl) (by intro y y2 h;rfl) h):Q→P:=h
def r6(h:Q→P:=by exact fun h=>rC TT 14 rfl h):Q→P:=h
def sk(h:Q→P:=by exact fun h=>oV (cS V.u3 Tryz.underlying52 rfl (FY omg omg)) h):Q→P:=h
def Ns(h:Q→P:=by exact fun h=>oV (eF rfl rfl dec (acr omg)) h):Q→P:=h
def NF(h:Q→P:=by exact fun h=>oV (cS V.u52 Tryz.underlying3 rfl wI) h):Q→P:=h
def Qc(h:Q→P:=by exact fun h=>rO TT 3 rfl h):Q→P:=h
def TQ(h:Q→P:=by exact fun h=>bA (M:=Row I3 p n cap (l)::S::F) (fun _ _ h=>h) h):Q→P:=h
def EE(h:Q→P:=by exact fun h=>mf TT 6 rfl omg h):Q→P:=h
def Qr(h:Q→P:=by exact fun h=>rC TT 7 rfl h):Q→P:=h
def Qf(h:Q→P:=by exact fun h=>rC TT 6 rfl h):Q→P:=h
def r3(h:Q→P:=by exact fun h=>mf TT 7 rfl omg h):Q→P:=h
def w5(h:Q→P:=by exact fun h=>jC TT 16 rfl omg h):Q→P:=h
def qP(h:Q→P:=by exact fun h=>rL TT 7 rfl h):Q→P:=h
def Q9(h:Q→P:=by exact fun h=>rO TT 2 rfl h):Q→P:=h
def Qs(h:Q→P:=by exact fun h=>rL TT 6 rfl h):Q→P:=h
def Q1(h:Q→P:=by exact fun h=>rO TT 6 rfl h):Q→P:=h
def Qe(h:Q→P:=by exact fun h=>rO TT 8 rfl h):Q→P:=h
def QJ(h:Q→P:=by exact fun h=>rC TT 9 rfl h):Q→P:=h
def D4(h:Q→P:=by exact fun h=>jC TT 15 rfl omg h):Q→P:=h
def QP(h:Q→P:=by exact fun h=>jC TT 8 rfl omg h):Q→P:=h
def QV(h:Q→P:=by exact fun h=>rT TT 5 rfl h):Q→P:=h
def QQ(h:Q→P:=by exact fun h=>rT TT 8 rfl h):Q→P:=h
def pB(h:Q→P:=by exact fun h=>rC TT 8 rfl h):Q→P:=h
def Vv(h:Q→P:=by exact fun h=>nR (fun y FF hA=>aB V.mj rfl ay rfl) h):Q→P:=h
def Oj(h:Q→P:=by exact fun h=>nR (fun y FF hA=>xI V.cy (by exact bK hR ay)) h):Q→P:=h
def NU(h:Q→P:=by exact fun h=>nR (fun y FF hA=>xL V.s3 (by exact bK hR ay)) h):Q→P:=h
def QK(h:Q→P:=by exact fun h=>rT TT 2 rfl h):Q→P:=h
def QC(h:Q→P:=by exact fun h=>rO TT 15 rfl h):Q→P:=h
def Zy(h:Q→P:=by exact fun h=>oV (eh ((k:Int)+1) V.s3 rfl ay (by(simp only[List.length_cons,List.length_nil];omega)) omg omg) h):Q→P:=h
def uM(h:Q→P:=by exact fun h=>jC TT 10 rfl omg h):Q→P:=h
def QO(h:Q→P:=by exact fun h=>rO TT 16 rfl h):Q→P:=h
def Q7(h:Q→P:=by exact fun h=>rO TT 4 rfl h):Q→P:=h
def Qy(h:Q→P:=by exact fun h=>rO TT 12 rfl h):Q→P:=h
def Q0(h:Q→P:=by exact fun h=>bB rfl h):Q→P:=h
def Q6G(h:Q→P:=by exact fun h=>oV (eh (1:Int) V.s3 rfl ay (by(simp only[List.length_cons,List.length_nil];omega)) omg omg) h):Q→P:=h
def Qd(h:Q→P:=by exact fun h=>rO TT 7 rfl h):Q→P:=h
def Qn(h:Q→P:=by exact fun h=>rO TT 9 rfl h):Q→P:=h
def wv(h:Q→P:=by exact fun h=>jg rfl (cs:=[_]) rfl rfl h):Q→P:=h
def Na(h:Q→P:=by exact fun h=>oV (lA (ty':=0) Tryz.underlying47 rfl) h):Q→P:=h
def Dd(h:Q→P:=by exact fun h=>oV (aB V.mj rfl dz rfl) h):Q→P:=h
def Q6(h:Q→P:=by exact fun h=>rO TT 5 rfl h):Q→P:=h
def oZ(h:Q→P:=by exact fun h=>rC TT 13 rfl h):Q→P:=h
def Q6H(h:Q→P:=by exact fun h=>nV (fun y hA L=>bZ (((I3.g ls (k:Int))).toNat) omg V.j0 rfl rfl omg) h):Q→P:=h
def uK(h:Q→P:=by exact fun h=>ei (c:=(I3)) V.cy V.z3 rfl rfl rfl rfl ar (own ay) omg rfl h):Q→P:=h
def Da(h:Q→P:=by exact fun h=>jC TT 7 rfl omg h):Q→P:=h
def Q3(h:Q→P:=by exact fun h=>rC TT 3 rfl h):Q→P:=h
def Q5(h:Q→P:=by exact fun h=>rC TT 2 rfl h):Q→P:=h
def o7(h:Q→P:=by exact fun h=>jC TT 2 rfl omg h):Q→P:=h
def ES(h:Q→P:=by exact fun h=>jC TT 13 rfl omg h):Q→P:=h
def mz(h:Q→P:=by exact fun h=>rT TT 9 rfl h):Q→P:=h
def r1(h:Q→P:=by exact fun h=>EU (fun h hh=>hh) h):Q→P:=h
def qJ(h:Q→P:=by exact fun h=>nR (fun y FF hA=>aB V.kO rfl ay rfl) h):Q→P:=h
def yQ(h:Q→P:=by exact fun h=>nV (fun y hA L=>lA (ty':=0) Tryz.underlying22 rfl) h):Q→P:=h
def w4(h:Q→P:=by exact fun h=>nV (fun y hA L=>fR rfl rfl wI) h):Q→P:=h
def Qz(h:Q→P:=by exact fun h=>nR (fun y FF hA=>aB V.s3 rfl ay rfl) h):Q→P:=h
def Hx(h:Q→P:=by exact fun h=>bW _ (.cons (d:=2) rfl (.nil _)) h):Q→P:=h
def Q6I(h:Q→P:=by exact fun h=>bA (M:=ai b 236 [.slice p1 B.length c1,.slice p2 out.length c2,I6 (at_:Int),I6 free]::Row U5 p1 B.length c1 B::Row U5 p2 out.length c2 out::F) (fun _ _ h=>h) h):Q→P:=h
def V5(h:Q→P:=by exact fun h=>ao [(0,_),(1,_)] Tryz.func92 rfl Tryz.ntmps92 rfl rfl h):Q→P:=h
def QL(h:Q→P:=by exact fun h=>oV (bC (dD rfl rfl) omg) h):Q→P:=h
def Qo(h:Q→P:=by exact fun h=>oV (bC (cR rfl rfl) omg) h):Q→P:=h
def Q5b(h:Q→P:=by exact fun h=>oC (Ad b B at_ out free hl ha) V.FO rfl (an .nil) rfl h):Q→P:=h
def Qp(h:Q→P:=by exact fun h=>oV (bQ (cR rfl rfl) omg) h):Q→P:=h
def yC(h:Q→P:=by exact fun h=>nV (fun y hA L=>kW rfl rfl omg (so omg omg omg)) h):Q→P:=h
def Ia(h:Q→P:=by exact fun h=>nR (fun y FF hA=>xI V.bT (own ay)) h):Q→P:=h
def Ho(h:Q→P:=by exact fun h=>nR (fun y FF hA=>xL V.s5 (own ay)) h):Q→P:=h
def Vz(h:Q→P:=by exact fun h=>nV (fun y hA L=>n7 rfl rfl omg (rA omg)) h):Q→P:=h
def Up(h:Q→P:=by exact fun h=>bW _ (.cons (d:=0) rfl (.cons (d:=3) rfl (.nil _))) h):Q→P:=h
def Ql(h:Q→P:=by exact fun h=>oV (aB V.s3 rfl ay rfl) h):Q→P:=h
def uw(h:Q→P:=by exact fun h=>jC TT 4 rfl omg h):Q→P:=h
def m9(h:Q→P:=by exact fun h=>cC (ew V.s3 rfl rfl rfl (by exact ft) (by exact Nat.le_of_ble_eq_true rfl) rfl) h):Q→P:=h
def mi(h:Q→P:=by exact fun h=>oV (cS V.u5 Tryz.underlying3 rfl wI) h):Q→P:=h
def Q6J(h:Q→P:=by exact fun h=>oV (fk (r:=ag.iF B (at_+k)*2^k) rfl rfl omg (ag.YC hb omg rfl)) h):Q→P:=h
def Y5(h:Q→P:=by exact fun h=>oV (kq (r:=ag.aG B at_ k+ag.iF B (at_+k)*2^k) rfl rfl (ag.Xx hnb.1 hnb.2 hb omg)) h):Q→P:=h
def qG(h:Q→P:=by exact fun h=>rC TT 12 rfl h):Q→P:=h
def Jl(h:Q→P:=by exact fun h=>oV (cn (v:=.bool false) (yj Tryz.underlying219 rfl rfl) rfl) h):Q→P:=h
def Qg(h:Q→P:=by exact fun h=>rO TT 10 rfl h):Q→P:=h
def Q6L(h:Q→P:=by exact fun h=>oV (cE V.XV V.z156 rfl (cs:=[.slice q B.length c,.slice none 0 0,I6 0,I6 0]) rfl) h):Q→P:=h
def Q6M(h:Q→P:=by exact fun h=>jg rfl (cs:=[.slice q B.length c,.slice none 0 0,I6 0,I6 0]) rfl rfl h):Q→P:=h
def Zv(h:Q→P:=by exact fun h=>bA (M:=ai b 151 [.slice p B.length cap,I6 (at_:Int),.bool false,.bool sh]::R::F) (fun _ _ h=>h) h):Q→P:=h
def Q43(h:Q→P:=by exact fun h=>nR (fun y FF hA=>xI V.bT (by exact bK hR ay)) h):Q→P:=h
def Q44(h:Q→P:=by exact fun h=>nR (fun y FF hA=>xL V.s5 (by exact bK hR ay)) h):Q→P:=h
def oU(h:Q→P:=by exact fun h=>oV (n7 rfl rfl omg (rA omg)) h):Q→P:=h
def nP(h:Q→P:=by exact fun h=>oV (aB V.s4 rfl ay rfl) h):Q→P:=h
def xl(h:Q→P:=by exact fun h=>jC TT 3 rfl omg h):Q→P:=h
def Wc(h:Q→P:=by exact fun h=>ao [(0,_),(1,_)] Tryz.func89 rfl Tryz.ntmps89 rfl rfl h):Q→P:=h
def uL(h:Q→P:=by exact fun h=>rT TT 10 rfl h):Q→P:=h
def Zr(h:Q→P:=by exact fun h=>oC (tA b p cap B R hR at_ sh hl omg) V.yc rfl (aJ .nil) rfl h):Q→P:=h
def qK(h:Q→P:=by exact fun h=>rO TT 18 rfl h):Q→P:=h
def QG(h:Q→P:=by exact fun h=>oV (bQ (dD rfl rfl) omg) h):Q→P:=h
def Cd(h:Q→P:=by exact fun h=>cC (ew V.s4 rfl rfl rfl (by exact ft) (by exact Nat.le_of_ble_eq_true rfl) rfl) h):Q→P:=h
def pe(h:Q→P:=by exact fun h=>rL TT 9 rfl h):Q→P:=h
def Q6P(h:Q→P:=by exact fun h=>nV (fun y hA L=>bZ ((((I3).g ls (k:Int))).toNat) omg V.j0 rfl rfl omg) h):Q→P:=h
def Q6Q(h:Q→P:=by exact fun h=>bW _ (.cons (d:=0) rfl (.cons (d:=4) rfl (.cons (d:=5) rfl (.cons (d:=6) rfl (.nil _))))) h):Q→P:=h
def Z7(h:Q→P:=by exact fun h=>jE [pz 0 [] [4],pz 0 [] [4],pz 2 [1] [],pz 6 [2] [],pz 14 [3] [],pz 0 [] [0],pz 0 [] [6],pz 96 [5,6] [],pz 224 [7] [],pz 480 [8] [],pz 1022 [4,9] [],pz 2047 [0] [],pz 4095 [11] [],pz 8191 [12,10] []] [⟨fun y=>Row I3 pl k cl (ls.take k),none,some 10,[]⟩,⟨fun y=>R,none,none,[7,8]⟩,⟨fun y=>ai iN 231 (CA [] .i64 ((ae.fK (ls.take k)).set ((((I3).g ls (k:Int))).toNat) (((ae.fK (ls.take k)).getD ((((I3).g ls (k:Int))).toNat) 0)+1)) [.slice none 0 0,.slice pl k cl]),none,some 13,[4]⟩,⟨fun y=>Row (I3) (some ⟨(iK (ej (y 9))),0,none⟩) 1 1 [((I3).g ls (k:Int))],some 9,none,[10]⟩,⟨fun y=>Row (I3) (ej (y 10)) (k+1) (fT (y 10)) ((ls.take k)++[((I3).g ls (k:Int))]),some 10,none,[]⟩,⟨fun y=>ai iN 231 (CA [] .i64 ((ae.fK (ls.take k)).set ((((I3).g ls (k:Int))).toNat) (((ae.fK (ls.take k)).getD ((((I3).g ls (k:Int))).toNat) 0)+1)) [.slice none 0 0,.slice (ej (y 10)) (k+1) (fT (y 10))]),some 13,none,[]⟩] F V.mixed (by kernel_rfl) rfl (fun _=>.refl _) (aU _ (aU _ (aU _ (dq _ rfl (by intro y y2 h;simp only[h 9 (.inl rfl)]) (dq _ rfl (by intro y y2 h;simp only[h 10 (.inl rfl)]) (dq _ rfl (by intro y y2 h;simp only[h 10 (.inr dec)]) fw)))))) h):Q→P:=h
def Y3(h:Q→P:=by exact fun h=>nR (fun y FF hA=>jJ (n:=16) 1 V.mj rfl ay (by(simp only[List.length_set];omega)) rfl rfl) h):Q→P:=h
def Q6T(h:Q→P:=by exact fun h=>fh (fun y v=>.slice (some ⟨iK (ej v),0,none⟩) 1 1) (fun y v=>True) _ _ (fun y v=>[Row (I3) (some ⟨(iK (ej v)),0,none⟩) 1 1 [((I3).g ls (k:Int))]]) _ (fun y=>rfl) (fun y=>rfl) (fun y=>rfl) (fun y=>rfl) (fun y FF hA=>CT (vy (I3) ([((I3).g ls (k:Int))]) V.cy V.z3 rfl rfl rfl rfl rfl)) (by intros;rfl) (by intros;rfl) (by intros;rfl) (by intro y y2 h;simp only[h 9 (.inl rfl)]) (by intro y y2 h;rfl) h):Q→P:=h
def Q6U(h:Q→P:=by exact fun h=>fh (fun y v=>.slice (ej v) (k+1) (fT v)) (fun y v=>True) _ _ (fun y v=>[Row (I3) (ej v) (k+1) (fT v) ((ls.take k)++[((I3).g ls (k:Int))])]) _ (fun y=>rfl) (fun y=>rfl) (fun y=>rfl) (fun y=>rfl) (fun y FF hA=>uj (pI (c:=(I3)) V.cy V.z3 rfl rfl rfl rfl dJ (own cX) omg) (.refl _)) (by intros;rfl) (by intros;rfl) (by intros;rfl) (by intro y y2 h;simp only[h 9 (.inr dec),h 10 (.inl rfl)]) (by intro y y2 h;rfl) h):Q→P:=h
def Q6V(h:Q→P:=by exact fun h=>nE (fun y FF hA=>dm (rf (n:=16) 1 V.mj rfl rfl rfl (by exact ft) (by(simp only[List.length_set];omega)) rfl (by exact Nat.le_of_ble_eq_true rfl) rfl) ⟨rfl,.refl _⟩) h):Q→P:=h
def VW(h:Q→P:=by exact fun h=>gL (Row I3 none 0 0 (ae.dW ls 0)) (Row.nil _ _ _) h):Q→P:=h
def Nj(h:Q→P:=by exact fun h=>oV (jJ (n:=16) 0 V.mj rfl ay omg rfl rfl) h):Q→P:=h
def Ur(h:Q→P:=by exact fun h=>cg (I3) [(i:Int)] V.cy V.z3 rfl rfl rfl rfl rfl rfl h):Q→P:=h
def MZ(h:Q→P:=by exact fun h=>ei (c:=(I3)) V.cy V.z3 rfl rfl rfl rfl aL (own ay) omg rfl h):Q→P:=h
def To(h:Q→P:=by exact fun h=>cC (rf (n:=16) 0 V.mj rfl rfl rfl (by exact xr) omg rfl (by exact Nat.le_of_ble_eq_true rfl) rfl) h):Q→P:=h
def Ud(h:Q→P:=by exact fun h=>oV (fk (r:=2*ag.acc B at_ m) rfl rfl dec (ag.Wt hac0.1 omg)) h):Q→P:=h
def Zb(h:Q→P:=by exact fun h=>oV (kq (r:=ag.acc B at_ (m+1)) rfl rfl (ag.Io hac0.1 omg hb)) h):Q→P:=h
def Q6X(h:Q→P:=by exact fun h=>oV (fk (r:=ae.base ls (m+1)) rfl rfl dec (JU hW omg)) h):Q→P:=h
def MY(h:Q→P:=by exact fun h=>oV (bZ (m+1) rfl V.j0 rfl rfl omg) h):Q→P:=h
def VH(h:Q→P:=by exact fun h=>oV (eh ((m:Int)+1) V.s3 rfl cX (by(simp only[List.length_cons,List.length_nil];omega)) omg omg) h):Q→P:=h
def xk(h:Q→P:=by exact fun h=>jC TT 5 rfl omg h):Q→P:=h
def yz(h:Q→P:=by exact fun h=>oV (bQ (il rfl rfl) omg) h):Q→P:=h
def uB(h:Q→P:=by exact fun h=>jC TT 14 rfl omg h):Q→P:=h
def Qj(h:Q→P:=by exact fun h=>rO TT 11 rfl h):Q→P:=h
def Zk(h:Q→P:=by exact fun h=>nR (fun y FF hA=>eh ((m:Int)+1) V.s3 rfl ay (by(simp only[List.length_cons,List.length_nil];omega)) omg omg) h):Q→P:=h
def zo(h:Q→P:=by exact fun h=>oV (aB V.kO rfl ay rfl) h):Q→P:=h
def SU(h:Q→P:=by exact fun h=>ei (c:=(U5)) V.bT V.z5 rfl rfl rfl rfl aL (own ay) omg rfl h):Q→P:=h
def Z9(h:Q→P:=by exact fun h=>cC (ew V.kO rfl rfl rfl (by exact xr) (by exact Nat.le_of_ble_eq_true rfl) rfl) h):Q→P:=h
def EM(h:Q→P:=by exact fun h=>oV (bQ (bG rfl rfl) rfl) h):Q→P:=h
def Hs(h:Q→P:=by exact fun h=>oC (qt 4) V.mF rfl .nil rfl h):Q→P:=h
def EF(h:Q→P:=by exact fun h=>dY (mE 4) V.mF rfl .nil h):Q→P:=h
def qO(h:Q→P:=by exact fun h=>oV (kW rfl rfl omg (so omg omg omg)) h):Q→P:=h
def s8(h:Q→P:=by exact fun h=>oV (aB V.hI rfl ay rfl) h):Q→P:=h
def Q70(h:Q→P:=by exact fun h=>cC (ew V.Cr rfl rfl rfl (by exact G7) (by exact Nat.le_of_ble_eq_true rfl) rfl) h):Q→P:=h
def pG(h:Q→P:=by exact fun h=>nG V.iC h):Q→P:=h
def pC(h:Q→P:=by exact fun h=>nR (fun y FF hA=>aB V.hI rfl ay rfl) h):Q→P:=h
def UN(h:Q→P:=by exact fun h=>bF (.bool true) _ _ (fun y=>rfl) rfl (fun y=>rfl) (fun y FF hA=>(dI.fact (hA 4 dec) (q:=fun _=>False) rfl).elim) h):Q→P:=h
def Q5k(h:Q→P:=by exact fun h=>nE (fun y FF hA=>aO (Post:=[LW bl B (a+5) [] 0]) (fQ bl B a [] 0 5 hl hB omg omg) V.fb rfl (an .nil) (fun v G h=>by rcases h with⟨rfl,rfl⟩;exact⟨rfl,.refl _⟩)) h):Q→P:=h
def Q2R(h:Q→P:=by exact fun h=>bF (.bool true) _ _ (fun y=>rfl) rfl (fun y=>rfl) (fun y FF hA=>(dI.fact (hA 10 dec) (q:=fun _=>False) rfl).elim) h):Q→P:=h
def Q71(h:Q→P:=by exact fun h=>nE (fun y FF hA=>aO (Post:=[LW bl B (a+10) [] 0]) (fQ bl B (a+5) [] 0 5 hl hB omg omg) V.fb rfl (an .nil) (fun v G h=>by rcases h with⟨rfl,rfl⟩;exact⟨rfl,.refl _⟩)) h):Q→P:=h
def Q48(h:Q→P:=by exact fun h=>bF (.bool true) _ _ (fun y=>rfl) rfl (fun y=>rfl) (fun y FF hA=>(dI.fact (hA 16 dec) (q:=fun _=>False) rfl).elim) h):Q→P:=h
def M0(h:Q→P:=by exact fun h=>oV (aB V.hI rfl dz rfl) h):Q→P:=h
def Q72(h:Q→P:=by exact fun h=>cC (mK (c:=(I3)) (_) V.s3 rfl rfl rfl (by exact qn) omg omg rfl rfl) h):Q→P:=h
def ZK(h:Q→P:=by exact fun h=>gL (Row I3 none 0 0 []) (Row.nil _ _ _) h):Q→P:=h
def Q73(h:Q→P:=by exact fun h=>oC ((pJ bc (ab.bX B a) bl B x [] 0 hy hl hB hx).ok hs) V.sZ rfl (.cons ar (.cons aL .nil)) rfl h):Q→P:=h
def Mt(h:Q→P:=by exact fun h=>oV (bC (il rfl rfl) omg) h):Q→P:=h
def Q5m(h:Q→P:=by exact fun h=>wF (p:=pr) (n:=l.length) (cap:=cr) (l:=l) (c:=I3) ay fun hcap=>h):Q→P:=h
def Q5n(h:Q→P:=by exact fun h=>nV (fun y hA L=>iO (ab.hL B a) _ V.cy rfl ⟨_,rfl⟩ rfl omg omg) h):Q→P:=h
def Q74(h:Q→P:=by exact fun h=>fh (fun y v=>.pointer (some ⟨eG v,0,none⟩)) (fun y v=>True) _ _ (fun y v=>[HC (eG v) (l.take (ab.hL B a)),Row I3 pr l.length cr l]) _ (fun y=>rfl) (fun y=>rfl) (fun y=>rfl) (fun y=>rfl) (fun y FF hA=>rm (A:=fun z=>HC z (l.take (ab.hL B a))) (Post:=[Row I3 pr l.length cr l]) (mV pr (ab.hL B a) cr (l.take (ab.hL B a)) (Row I3 pr l.length cr l) (by(rw[List.length_take];omega)) (fun _ _ hh=>mI rfl omg hh) hc1) V.pO rfl (an .nil)) (by intros;rfl) (by intros;rfl) (by intros;rfl) (by intro y y2 h;simp only[h 5 (.inl rfl)]) (by intro y y2 h;rfl) h):Q→P:=h
def Q5o(h:Q→P:=by exact fun h=>nV (fun y hA L=>dZ (ab.hL B a) _ _ V.cy rfl ⟨_,rfl⟩ ⟨rfl,rfl⟩ rfl omg omg omg) h):Q→P:=h
def Q75(h:Q→P:=by exact fun h=>nE (fun y FF hA=>dm (ew V.Cr rfl rfl rfl (by exact ft) (by exact Nat.le_of_ble_eq_true rfl) rfl) ⟨rfl,.refl _⟩) h):Q→P:=h
def ZI(h:Q→P:=by exact fun h=>bF (.bool true) _ _ (fun y=>rfl) rfl (fun y=>rfl) (fun y FF hA=>(dI.fact (hA 9 dec) (q:=fun _=>False) rfl).elim) h):Q→P:=h
def Q2y(h:Q→P:=by exact fun h=>bF (.bool true) _ _ (fun y=>rfl) rfl (fun y=>rfl) (fun y FF hA=>(dI.fact (hA 5 dec) (q:=fun _=>False) rfl).elim) h):Q→P:=h
def NG(h:Q→P:=by exact fun h=>oV (bQ (dD rfl rfl) hq) h):Q→P:=h
def Q76(h:Q→P:=by exact fun h=>nV (fun y hA L=>fk (r:=(4+sy%4)*2^ab.gD sy) rfl rfl omg hsh.1) h):Q→P:=h
def Z6(h:Q→P:=by exact fun h=>bF (.bool true) _ _ (fun y=>rfl) rfl (fun y=>rfl) (fun y FF hA=>(dI.fact (hA 11 dec) (q:=fun _=>False) rfl).elim) h):Q→P:=h
def Mp(h:Q→P:=by exact fun h=>nR (fun y FF hA=>aB V.Cr rfl ay rfl) h):Q→P:=h
def Q77(h:Q→P:=by exact fun h=>bF (.bool true) _ _ (fun y=>rfl) rfl (fun y=>rfl) (fun y FF hA=>(dI.fact (hA 8 dec) (q:=fun _=>False) rfl).elim) h):Q→P:=h
def Q78(h:Q→P:=by exact fun h=>nV (fun y hA L=>fk (r:=(2+sy%2)*2^ab.gO sy) rfl rfl omg hsh.1) h):Q→P:=h
def zE(h:Q→P:=by exact fun h=>cC (ew V.s4 rfl rfl rfl (by exact qn) (by exact Nat.le_of_ble_eq_true rfl) rfl) h):Q→P:=h
def QW(h:Q→P:=by exact fun h=>oV (aB V.s3 rfl cX rfl) h):Q→P:=h
def Q79(h:Q→P:=by exact fun h=>nE (fun y FF hA=>aO (Post:=[LW bl B ((ab.cT (s.at_+3))+16) [] 0]) (fQ bl B (ab.cT (s.at_+3)) [] 0 16 hl hB omg omg) V.fb rfl (an .nil) (fun v G h=>by rcases h with⟨rfl,rfl⟩;exact⟨rfl,.refl _⟩)) h):Q→P:=h
def Zm(h:Q→P:=by exact fun h=>oV (tY (r:=(IntKind.i64.wrap ((BitVec.ofInt IntKind.i64.bits (ag.aG B (ab.cT (s.at_+3)) 16)^^^BitVec.ofInt IntKind.i64.bits (ag.aG B ((ab.cT (s.at_+3))+16) 16)).toNat:Int))) rfl rfl rfl) h):Q→P:=h
def sb(h:Q→P:=by exact fun h=>oV (cS V.u3 Tryz.underlying5 rfl (Ge omg omg)) h):Q→P:=h
def Q7b(h:Q→P:=by exact fun h=>oV (k5 (r:=sy-257) rfl rfl (by rw[show sy-256-1=sy-257 from by omega];exact gI omg omg)) h):Q→P:=h
def Q7c(h:Q→P:=by exact fun h=>bA (aS (aJ .nil) .refl (fun w0 h hh=>dL (s:=s) rfl hh)) h):Q→P:=h
def Z3(h:Q→P:=by exact fun h=>bA (aS (.cons aL (.cons aL .nil)) .refl (fun w0 h hh=>dL (s:=s) rfl hh)) h):Q→P:=h
def Q7e(h:Q→P:=by exact fun h=>oC (fQ bl B s.at_ [] 0 8 hl hB omg omg) V.fb rfl (.cons aL .nil) rfl h):Q→P:=h
def Q7f(h:Q→P:=by exact fun h=>cC (ew V.Hj rfl rfl rfl (.tail .head) (by exact Nat.le_of_ble_eq_true rfl) rfl) h):Q→P:=h
def Y4(h:Q→P:=by exact fun h=>cC (ew V.Hj rfl rfl rfl .head (by exact Nat.le_of_ble_eq_true rfl) rfl) h):Q→P:=h
def yJ(h:Q→P:=by exact fun h=>nD dJ (fun h hh=>xM hh) h):Q→P:=h
def vX(h:Q→P:=by exact fun h=>EU (fun h hh=>tM hh) h):Q→P:=h
def Q7h(h:Q→P:=by exact fun h=>bW _ (.cons (d:=0) rfl (.cons (d:=1) rfl (.cons (d:=2) rfl (.cons (d:=18) rfl (.nil _))))) h):Q→P:=h
def Q7i(h:Q→P:=by exact fun h=>bA (M:=ai b 223 [.pointer (soz bl),I6 sz,I6 mo,.slice po s.out.length co,.bool s.ended,I6 0,I6 s.kind,I6 (s.left:Int),.bool s.last,li,di,I6 (s.ax:Int),I6 (s.cm:Int)]::Row U5 po s.out.length co s.out::LW bl B s.at_ [] 0::CD li di s::ai bm 204 [.pointer (soz b)]::ai bw 3 [I6 (w:Int)]::ai bn 3 [I6 n]::F) (fun _ _ h=>h) h):Q→P:=h
def VY(h:Q→P:=by exact fun h=>lM _ _ (fun y=>rfl) rfl (fun y=>rfl) rfl (fun y FF hA=>eR rfl (dm (aB V.s3 rfl ay rfl) ⟨rfl,rfl⟩)) (by intros;rfl) (by intro y y2 h;rfl) h):Q→P:=h
def Q7j(h:Q→P:=by exact fun h=>bA ((aS (aJ .nil) .refl (fun w0 h hh=>dL (s:=s) rfl hh)).trans (aS (dV .nil) .refl (fun w0 h hh=>gm (s:=s) hh))) h):Q→P:=h
def lT(h:Q→P:=by exact fun h=>oV (aB V.vd rfl cX rfl) h):Q→P:=h
def M1(h:Q→P:=by exact fun h=>ao [(0,_),(1,_)] Tryz.func147 rfl Tryz.ntmps147 rfl rfl h):Q→P:=h
def CR(h:Q→P:=by exact fun h=>oV (cn (v:=.bool false) (yj Tryz.underlying204 rfl rfl) rfl) h):Q→P:=h
def GC(h:Q→P:=by exact fun h=>oV (aB V.s4 rfl dz rfl) h):Q→P:=h
def m7(h:Q→P:=by exact fun h=>oV (lA (ty':=0) Tryz.underlying22 rfl) h):Q→P:=h
def Q7k(h:Q→P:=by exact fun h=>bA (Sl.Sub.trans (aS (.cons cB (.cons cB .nil)) .refl (fun w0 h hh=>dL (s:=s) rfl hh)) (aS (an (.cons cB (.cons cB .nil))) .refl (fun w0 h hh=>gm (s:=s) hh))) h):Q→P:=h
def sd(h:Q→P:=by exact fun h=>oV (bC (bO rfl rfl) dec) h):Q→P:=h
def MU(h:Q→P:=by exact fun h=>nD dJ (fun h hh=>Ev hh) h):Q→P:=h
def NZ(h:Q→P:=by exact fun h=>oV (aB V.Hj rfl ay rfl) h):Q→P:=h
def Xa(h:Q→P:=by exact fun h=>ao [(0,_)] Tryz.func148 rfl Tryz.ntmps148 rfl rfl h):Q→P:=h
def Wg(h:Q→P:=by exact fun h=>oC (z6 b bl sz mo B s) V.xP rfl (an .nil) rfl h):Q→P:=h
def wc(h:Q→P:=by exact fun h=>gL (Row U5 none 0 0 []) (Row.nil _ _ _) h):Q→P:=h
def yX(h:Q→P:=by exact fun h=>oV (aB V.kO rfl cX rfl) h):Q→P:=h
def T6(h:Q→P:=by exact fun h=>ao [(0,_)] Tryz.func149 rfl Tryz.ntmps149 rfl rfl h):Q→P:=h
def Q99(h:Q→P:=by exact fun h=>oV (cE V.XS V.acG rfl (cs:=[_,_,_,_,_,_,_,_,_,_,_,_,_]) rfl) h):Q→P:=h
def Is(h:Q→P:=by exact fun h=>jC TT 1 rfl omg h):Q→P:=h
def Qq(h:Q→P:=by exact fun h=>rO TT 13 rfl h):Q→P:=h
def Zw(h:Q→P:=by exact fun h=>ei (c:=(U5)) V.bT V.z5 rfl rfl rfl rfl cB (own ay) omg rfl h):Q→P:=h
def Zx(h:Q→P:=by exact fun h=>ei (c:=(U5)) V.bT V.z5 rfl rfl rfl rfl jX (own ay) omg rfl h):Q→P:=h
def rZ(h:Q→P:=by exact fun h=>rO TT 17 rfl h):Q→P:=h
def QD(h:Q→P:=by exact fun h=>oV (bQ (bG rfl rfl) omg) h):Q→P:=h
def QA(h:Q→P:=by exact fun h=>oV (bC (bG rfl rfl) omg) h):Q→P:=h
def N8(h:Q→P:=by exact fun h=>aQ (qb b p cap B R hR x2 sh (ab.dE sy) hl hB omg omg omg) V.lO rfl (.cons ar (.cons ar .nil)) rfl h):Q→P:=h
def W6(h:Q→P:=by exact fun h=>aQ (jk b p cap B R hR x2 sh (ab.dE sy) hl hB omg omg) V.lO rfl (.cons ar (.cons ar .nil)) rfl h):Q→P:=h
def zw(h:Q→P:=by exact fun h=>jC TT 11 rfl omg h):Q→P:=h
def Sj(h:Q→P:=by exact fun h=>cg (I3) [ab.ib sy l] V.cy V.z3 rfl rfl rfl rfl rfl rfl h):Q→P:=h
def QE(h:Q→P:=by exact fun h=>rO TT 14 rfl h):Q→P:=h
def Q7n(h:Q→P:=by exact fun h=>oV (iO (ab.hL B a) _ V.cy rfl ⟨_,rfl⟩ rfl omg omg) h):Q→P:=h
def Mx(h:Q→P:=by exact fun h=>oV (dZ (ab.hL B a) _ _ V.cy rfl ⟨_,rfl⟩ ⟨rfl,rfl⟩ rfl omg omg omg) h):Q→P:=h
def nT(h:Q→P:=by exact fun h=>rL TT 3 rfl h):Q→P:=h
def UZ(h:Q→P:=by exact fun h=>oV (bQ (bO rfl rfl) (ab.Xg hB hok hk hc he hbo)) h):Q→P:=h
def VU(h:Q→P:=by exact fun h=>wN [pz 0 [] [8],pz 0 [] [7],pz 2 [1] [],pz 6 [2] [],pz 14 [3] [],pz 30 [4] [],pz 62 [5] [],pz 1 [0] [],pz 255 [6] [],pz 511 [] []] [⟨fun y=>ai gk 151 [.slice p B.length cap,I6 (S2.at_:Int),.bool false,.bool sh9],none,none,[4]⟩,⟨fun y=>R,none,none,[]⟩,⟨fun y=>Row U5 q9 S2.out.length c9 S2.out,none,none,[]⟩] F V.mixed h):Q→P:=h
def W1(h:Q→P:=by exact fun h=>bW _ (.cons (d:=4) rfl (.cons (d:=5) rfl (.cons (d:=6) rfl (.nil _)))) h):Q→P:=h
def SQ(h:Q→P:=by exact fun h=>bA (M:=ai gk 151 [.slice p B.length cap,I6 (S2.at_:Int),.bool false,.bool sh9]::R::Row U5 q9 S2.out.length c9 S2.out::F) (fun _ _ h=>h) h):Q→P:=h
def A6(h:Q→P:=by exact fun h=>oV (bQ (bG rfl rfl) dec) h):Q→P:=h
def GS(h:Q→P:=by exact fun h=>oV (xI V.bT (by exact bK hR ay)) h):Q→P:=h
def I1(h:Q→P:=by exact fun h=>oV (xL V.s5 (by exact bK hR ay)) h):Q→P:=h
def VK(h:Q→P:=by exact fun h=>oV (cS V.u5 Tryz.underlying76 rfl (aC.wrap32 omg omg)) h):Q→P:=h
def Ow(h:Q→P:=by exact fun h=>oV (dw rfl rfl (aC.wrap32 omg omg)) h):Q→P:=h
def Y9(h:Q→P:=by exact fun h=>oV (n7 (r:=((aC.gh (B.take i)).1+(U5.g B (i:Int)))%65521) rfl rfl omg (rA omg)) h):Q→P:=h
def Zp(h:Q→P:=by exact fun h=>oV (n7 (r:=((aC.gh (B.take i)).2+((aC.gh (B.take i)).1+(U5.g B (i:Int)))%65521)%65521) rfl rfl omg (rA omg)) h):Q→P:=h
def Zg(h:Q→P:=by exact fun h=>oV (fk (r:=(aC.gh B).2*65536) rfl rfl dec (aC.vx (n:=16) rfl dec rfl omg omg)) h):Q→P:=h
def Q7r(h:Q→P:=by exact fun h=>oV (kq (r:=(aC.gh B).2*65536+(aC.gh B).1) rfl rfl (aC.vw (u:=(aC.gh B).2) (n:=16) rfl omg omg omg)) h):Q→P:=h
def jV(h:Q→P:=by exact fun h=>abM V.mixed (by kernel_rfl) h):Q→P:=h
def mq(h:Q→P:=by exact fun h=>oR (jh rfl) h):Q→P:=h
def lX(h:Q→P:=by exact fun h=>oR (xI V.bT (by exact bK hR ay)) h):Q→P:=h
def lR(h:Q→P:=by exact fun h=>oR (xL V.s5 (by exact bK hR ay)) h):Q→P:=h
def ie(h:Q→P:=by exact fun h=>oR (cS V.u5 Tryz.underlying3 rfl wI) h):Q→P:=h
def Qw(h:Q→P:=by exact fun h=>rR TT 2 rfl h):Q→P:=h
def lq(h:Q→P:=by exact fun h=>Rg.ga h):Q→P:=h
def Jm(h:Q→P:=by exact fun h=>oV (iT (r:=(U5.g B 0)%16) rfl rfl (aC.X3 hv)) h):Q→P:=h
def Ot(h:Q→P:=by exact fun h=>oV (eF (r:=(U5.g B 0)/16) rfl rfl dec (aC.sh4 hv.1)) h):Q→P:=h
def V1(h:Q→P:=by exact fun h=>oV (fk (r:=(U5.g B 0)*256) rfl rfl dec (aC.vl (n:=8) rfl dec rfl omg omg)) h):Q→P:=h
def WH(h:Q→P:=by exact fun h=>oV (kq (r:=(U5.g B 0)*256+(U5.g B 1)) rfl rfl (aC.pQ (u:=(U5.g B 0)) (n:=8) rfl hv.1 omg omg)) h):Q→P:=h
def SN(h:Q→P:=by exact fun h=>oV (n7 (r:=((U5.g B 0)*256+(U5.g B 1))%31) rfl rfl omg (rA omg)) h):Q→P:=h
def ZX(h:Q→P:=by exact fun h=>oV (dZ 2 _ _ V.bT rfl ⟨_,rfl⟩ ⟨rfl,rfl⟩ rfl omg omg omg) h):Q→P:=h
def Gh(h:Q→P:=by exact fun h=>oV (cn (v:=I6 ((2+n:Nat):Int)) (dw rfl rfl wI) (by congr 1)) h):Q→P:=h
def HQ(h:Q→P:=by exact fun h=>oV (dZ (2+n) B.length c V.bT rfl ⟨_,rfl⟩ ⟨rfl,rfl⟩ rfl omg omg omg) h):Q→P:=h
def NH(h:Q→P:=by exact fun h=>oV (bQ (bO rfl rfl) he) h):Q→P:=h
def zy(h:Q→P:=by exact fun h=>oV (bC (bO rfl rfl) (fun h=>h he)) h):Q→P:=h
def Q7t(h:Q→P:=by exact fun h=>wN [pz 0 [] [9],pz 1 [0] [],pz 0 [] [6],pz 4 [2] [],pz 15 [1,3] [],pz 31 [4] []] [⟨fun y=>Row U5 q22 x.length c22 x,none,some 3,[]⟩,⟨fun y=>R,none,none,[1]⟩,⟨fun y=>Row U5 q22 x.length c22 x,some 3,none,[]⟩] F V.mixed h):Q→P:=h
def Zc(h:Q→P:=by exact fun h=>nR (fun y FF hA=>px (T:=5) Tryz.underlying22 Tryz.underlying5 Tryz.underlying9 rfl (by exact bK hDn ay)) h):Q→P:=h
def YX(h:Q→P:=by exact fun h=>nE (fun y FF hA=>aO (Post:=[Row U5 q22 x.length c22 x]) (Xq q22 c22 x (Row U5 q22 x.length c22 x) (fun _ _ hh=>hh.rd) omg hxB) V.acA rfl (an .nil) (fun v G h=>by rcases h with⟨rfl,rfl⟩;exact⟨rfl,.refl _⟩)) h):Q→P:=h
def G1(h:Q→P:=by exact fun h=>oR (iT (r:=(U5.g B 0)%16) rfl rfl (aC.Ux hv)) h):Q→P:=h
def Bc(h:Q→P:=by exact fun h=>oR (bC (bO rfl rfl) (fun hh=>hh omg)) h):Q→P:=h
def eI(h:Q→P:=by exact fun h=>Rg.bB rfl h):Q→P:=h
def Ny(h:Q→P:=by exact fun h=>oR (eF (r:=(U5.g B 0)/16) rfl rfl dec (aC.ab5 hv.1)) h):Q→P:=h
def Im(h:Q→P:=by exact fun h=>zV TT 2 rfl omg h):Q→P:=h
def WD(h:Q→P:=by exact fun h=>oR (n7 (r:=((U5.g B 0)*256+(U5.g B 1))%31) rfl rfl omg (rA omg)) h):Q→P:=h
def yB(h:Q→P:=by exact fun h=>oR (xI V.bT (by exact bK hDn cX)) h):Q→P:=h
def zm(h:Q→P:=by exact fun h=>oR (xL V.s5 (by exact bK hDn cX)) h):Q→P:=h
def lU(h:Q→P:=by exact fun h=>oR (cS V.u5 Tryz.underlying76 rfl (aC.wrap32 omg omg)) h):Q→P:=h
def Q7w(h:Q→P:=by exact fun h=>oR (fk (r:=(U5.g (B.drop (2+n)) 0)*16777216) rfl rfl dec (aC.vx (n:=24) rfl dec rfl omg omg)) h):Q→P:=h
def Zu(h:Q→P:=by exact fun h=>oR (fk (r:=(U5.g (B.drop (2+n)) 1)*65536) rfl rfl dec (aC.vx (n:=16) rfl dec rfl omg omg)) h):Q→P:=h
def Q7y(h:Q→P:=by exact fun h=>oR (kq (r:=((U5.g (B.drop (2+n)) 0)*16777216+(U5.g (B.drop (2+n)) 1)*65536)) rfl rfl (aC.vw (u:=(U5.g (B.drop (2+n)) 0)) (n:=24) rfl omg omg omg)) h):Q→P:=h
def YY(h:Q→P:=by exact fun h=>oR (fk (r:=(U5.g (B.drop (2+n)) 2)*256) rfl rfl dec (aC.vx (n:=8) rfl dec rfl omg omg)) h):Q→P:=h
def Zl(h:Q→P:=by exact fun h=>oR (kq (r:=((U5.g (B.drop (2+n)) 0)*16777216+(U5.g (B.drop (2+n)) 1)*65536+(U5.g (B.drop (2+n)) 2)*256)) rfl rfl (aC.vw (u:=(U5.g (B.drop (2+n)) 0)*256+(U5.g (B.drop (2+n)) 1)) (n:=16) omg omg omg omg)) h):Q→P:=h
def Q7B(h:Q→P:=by exact fun h=>oR (kq (r:=((U5.g (B.drop (2+n)) 0)*16777216+(U5.g (B.drop (2+n)) 1)*65536+(U5.g (B.drop (2+n)) 2)*256+(U5.g (B.drop (2+n)) 3))) rfl rfl (aC.vw (u:=(U5.g (B.drop (2+n)) 0)*65536+(U5.g (B.drop (2+n)) 1)*256+(U5.g (B.drop (2+n)) 2)) (n:=8) omg omg omg omg)) h):Q→P:=h
def qE(h:Q→P:=by exact fun h=>oR (jZ rfl) h):Q→P:=h
def Q7C(h:Q→P:=by exact fun h=>oC (Jv q22 c22 x (Row U5 q22 x.length c22 x) (fun _ _ hh=>hh.rd) omg hxB) V.NA rfl (an .nil) rfl h):Q→P:=h
def Q7D(h:Q→P:=by exact fun h=>oV (eF (r:=(aa.gZ k x)/2) rfl rfl dec (aa.ob (n:=1) rfl dec rfl)) h):Q→P:=h
def zq(h:Q→P:=by exact fun h=>oV (cS V.D3 Tryz.underlying5 rfl (aa.gU _)) h):Q→P:=h
def Q7E(h:Q→P:=by exact fun h=>oV (Ar (r:=4294967295-(aa.gu (4294967295-s) B)) rfl rfl (aa.F9 omg)) h):Q→P:=h
def Q7F(h:Q→P:=by exact fun h=>JJ Tryz.underlying9 Tryz.underlying22 Tryz.underlying5 rfl (aa.aT hk) rfl h):Q→P:=h
def nf(h:Q→P:=by exact fun h=>oV (bQ (rF rfl rfl) omg) h):Q→P:=h
def qa(h:Q→P:=by exact fun h=>oV (bC (rF rfl rfl) omg) h):Q→P:=h
def MH(h:Q→P:=by exact fun h=>oV (WE Tryz.underlying9 rfl (lJ kk)) h):Q→P:=h
def Uj(h:Q→P:=by exact fun h=>oV (DH i Tryz.underlying9 rfl rfl (aa.aT hk) rfl omg) h):Q→P:=h
def Bv(h:Q→P:=by exact fun h=>de V.Eg rfl h):Q→P:=h
def MQ(h:Q→P:=by exact fun h=>oV (cE V.JR V.Eg rfl (cs:=[.string ByteArray.empty,.slice none 0 0]) rfl) h):Q→P:=h
def vZ(h:Q→P:=by exact fun h=>cC (aZ V.qg rfl rfl (us:=[_,_]) rfl rfl (by exact ft) (by exact Nat.le_of_ble_eq_true rfl) rfl) h):Q→P:=h
def Ii(h:Q→P:=by exact fun h=>wN [pz 0 [] [0],pz 1 [0] [],pz 0 [] [0],pz 4 [2] [],pz 12 [3] [],pz 3 [1] [],pz 63 [4] []] [⟨fun y=>ai b4 88 [.string ByteArray.empty,.slice none 0 0],none,none,[]⟩,⟨fun y=>ai bt 175 (CA [] .u32 aa.fL []),none,none,[]⟩,⟨fun y=>R,none,none,[1,4]⟩] F V.mixed h):Q→P:=h
def Hf(h:Q→P:=by exact fun h=>nE (fun y FF hA=>aO (Post:=[R]) (Cg p c B R hR hB omg hcap) V.KO rfl (an .nil) (fun v G h=>by rcases h with⟨rfl,rfl⟩;exact⟨rfl,.refl _⟩)) h):Q→P:=h
def IV(h:Q→P:=by exact fun h=>nV (fun y hA L=>dZ 4 8 _ V.bT rfl ⟨_,rfl⟩ ⟨_,rfl⟩ rfl omg omg omg) h):Q→P:=h
def HR(h:Q→P:=by exact fun h=>nR (fun y FF hA=>px (T:=5) Tryz.underlying22 Tryz.underlying5 Tryz.underlying9 rfl (by exact bK hS ay)) h):Q→P:=h
def Gf(h:Q→P:=by exact fun h=>bW _ (.cons (d:=0) rfl (.cons (d:=1) rfl (.cons (d:=4) rfl (.cons (d:=7) rfl (.cons (d:=8) rfl (.nil _)))))) h):Q→P:=h
def Jx(h:Q→P:=by exact fun h=>bA (M:=ai b4 88 [.string ByteArray.empty,.slice none 0 0]::ai bt 175 (CA [] .u32 aa.fL [])::R::F) (fun _ _ h=>h) h):Q→P:=h
def W9(h:Q→P:=by exact fun h=>oC (og ((B.drop 4).take 4) (aa.dS (aa.cA hB 4) 4) (by rw[aa.gy omg];decide) true (decide_eq_true hnm).symm) V.u4 rfl .nil rfl h):Q→P:=h
def Co(h:Q→P:=by exact fun h=>jC TT 12 rfl omg h):Q→P:=h
def Mz(h:Q→P:=by exact fun h=>oV (cn (v:=I6 ((8+n:Nat):Int)) (dw rfl rfl wI) (by congr 1)) h):Q→P:=h
def Q7G(h:Q→P:=by exact fun h=>oV (dZ 8 (8+n) c V.bT rfl ⟨_,rfl⟩ ⟨_,rfl⟩ rfl omg omg omg) h):Q→P:=h
def ZD(h:Q→P:=by exact fun h=>oV (dZ (8+n) B.length c V.bT rfl ⟨_,rfl⟩ ⟨rfl,rfl⟩ rfl omg omg omg) h):Q→P:=h
def Uy(h:Q→P:=by exact fun h=>oC (Jz (cM p (8+n) c 1) (c-(8+n)) (B.length-(8+n)) (B.drop (8+n)) R hXn List.length_drop hb8 omg omg) V.KO rfl (.cons aL .nil) rfl h):Q→P:=h
def Q7I(h:Q→P:=by exact fun h=>oC (Kz bt ((B.drop 4).take 4) hk4 (by rw[aa.gy omg];decide) (cM p 8 c 1) (c-8) (8+n-8) ((B.drop 8).take n) R hX8 (by rw[aa.gy omg];omega) omg uy) V.acT rfl (.cons aL (an .nil)) rfl h):Q→P:=h
def Sr(h:Q→P:=by exact fun h=>oV (bC (bO rfl rfl) (fun h=>h hsum)) h):Q→P:=h
def Su(h:Q→P:=by exact fun h=>aQ (Lu b26 pz cz Z.length Z R hZR rfl omg hZB hZc x hf) V.ZV rfl (.cons aL (.cons aL .nil)) rfl h):Q→P:=h
def UL(h:Q→P:=by exact fun h=>oV (bC (bO rfl rfl) (fun h=>h rfl)) h):Q→P:=h
def Tg(h:Q→P:=by exact fun h=>oV (dZ (12+x.d.length) Z.length cz V.bT rfl ⟨_,rfl⟩ ⟨rfl,rfl⟩ rfl omg omg omg) h):Q→P:=h
def Gi(h:Q→P:=by exact fun h=>oV (bU V.qg rfl ay (vs:=[_,_]) rfl rfl) h):Q→P:=h
def Wf(h:Q→P:=by exact fun h=>cg (CK) [(Ce.mk x.k q35 c35 x.d)] V.vz V.Eg rfl rfl rfl rfl rfl rfl h):Q→P:=h
def UO(h:Q→P:=by exact fun h=>ei (c:=(CK)) V.vz V.Eg rfl rfl rfl rfl jX (own ay) omg rfl h):Q→P:=h
def TH(h:Q→P:=by exact fun h=>bA (aS (A:=DK (es++[(Ce.mk x.k q35 c35 x.d)])) (.cons nQ (.cons cB .nil)) aj (fun w0 h hh=>Ds (x:=(Ce.mk x.k q35 c35 x.d)) rfl hh)) h):Q→P:=h
def Q7J(h:Q→P:=by exact fun h=>oV (cn (v:=.bool false) (lz (r:=true) (by rw[hk];exact beq_self_eq_true _) rfl (show au _ _=some (.string (strOfNums aa.aY)) by unfold aa.aY;rfl)) rfl) h):Q→P:=h
def Q7K(h:Q→P:=by exact fun h=>oV (DH 0 Tryz.underlying9 rfl rfl (aa.aT hk) rfl (by have:=aa.Ew hnm;omega)) h):Q→P:=h
def qA(h:Q→P:=by exact fun h=>oV (aB V.s9 rfl ay rfl) h):Q→P:=h
def vO(h:Q→P:=by exact fun h=>oV (aB V.s4 rfl cX rfl) h):Q→P:=h
def CJ(h:Q→P:=by exact fun h=>oV (fD (aa.aT hxk) (aa.aT aa.mM) rfl (show au _ _=some (.string (strOfNums aa.aW)) by unfold aa.aW;rfl) (decide_eq_false h1).symm) h):Q→P:=h
def Ze(h:Q→P:=by exact fun h=>oV (fD (aa.aT hxk) (aa.aT aa.mQ) rfl (show au _ _=some (.string (strOfNums aa.aR)) by unfold aa.aR;rfl) (decide_eq_true h2).symm) h):Q→P:=h
def Np(h:Q→P:=by exact fun h=>oV (fD (aa.aT hxk) (aa.aT aa.mQ) rfl (show au _ _=some (.string (strOfNums aa.aR)) by unfold aa.aR;rfl) (decide_eq_false h2).symm) h):Q→P:=h
def SJ(h:Q→P:=by exact fun h=>oV (fD (aa.aT hxk) (aa.aT aa.mD) rfl (show au _ _=some (.string (strOfNums aa.ba)) by unfold aa.ba;rfl) (decide_eq_false h3).symm) h):Q→P:=h
def Z1(h:Q→P:=by exact fun h=>oC (og x.k hxk omg true (decide_eq_true h4).symm) V.u4 rfl .nil rfl h):Q→P:=h
def GQ(h:Q→P:=by exact fun h=>oV (cn (v:=I6 (((es.length-1):Nat):Int)) (k5 rfl rfl wI) (by congr 1;omega)) h):Q→P:=h
def oO(h:Q→P:=by exact fun h=>oV (xI V.vz (by exact bK hR ay)) h):Q→P:=h
def zt(h:Q→P:=by exact fun h=>oV (bP V.YU rfl) h):Q→P:=h
def zh(h:Q→P:=by exact fun h=>oV (fE (c:=(CK)) 0 V.s9 rfl (by exact bK hR ay) omg omg rfl rfl) h):Q→P:=h
def L0(h:Q→P:=by exact fun h=>oV (cn (v:=.bool false) (lz (r:=true) (by rw[hk0];exact beq_self_eq_true _) rfl (show au _ _=some (.string (strOfNums aa.bM)) by unfold aa.bM;rfl)) rfl) h):Q→P:=h
def tx(h:Q→P:=by exact fun h=>oV (bP V.X6 rfl) h):Q→P:=h
def Dl(h:Q→P:=by exact fun h=>oV (fE (c:=(CK)) 1 V.kO rfl (by exact bK hR ay) omg omg rfl rfl) h):Q→P:=h
def Nh(h:Q→P:=by exact fun h=>oV (bC (bO rfl rfl) (fun hh=>hh omg)) h):Q→P:=h
def Za(h:Q→P:=by exact fun h=>oV (cn (v:=.bool false) (lz (r:=true) (by rw[hkn];exact beq_self_eq_true _) rfl (show au _ _=some (.string (strOfNums aa.aY)) by unfold aa.aY;rfl)) rfl) h):Q→P:=h
def ZW(h:Q→P:=by exact fun h=>oC (TW CX w.plte w.trns w.bS w.lC (CK.g ((es.drop 1).take ((es.length-1)-1)) (i:Int)) hxo.1 hxo.2) V.b80 rfl (.cons ar .nil) rfl h):Q→P:=h
def Q7P(h:Q→P:=by exact fun h=>wN [pz 0 [] [0],pz 1 [0] [],pz 3 [1] [],pz 0 [] [],pz 15 [2,3] [],pz 31 [4] []] [⟨fun y=>R,none,none,[2]⟩] F V.mixed h):Q→P:=h
def Q7Q(h:Q→P:=by exact fun h=>nV (fun y hA L=>iO 8 _ V.bT rfl ⟨_,rfl⟩ rfl omg omg) h):Q→P:=h
def Q7R(h:Q→P:=by exact fun h=>nR (fun y FF hA=>px (T:=5) Tryz.underlying22 Tryz.underlying5 Tryz.underlying9 rfl (by exact bK hT8 ay)) h):Q→P:=h
def Q7S(h:Q→P:=by exact fun h=>nE (fun y FF hA=>aO (Post:=[]) (Jf) V.ZL rfl .nil (fun v G h=>by rcases h with⟨rfl,rfl⟩;exact⟨rfl,.refl _⟩)) h):Q→P:=h
def kg(h:Q→P:=by exact fun h=>oR (xI V.bT (by exact bK hR dz)) h):Q→P:=h
def ke(h:Q→P:=by exact fun h=>oR (xL V.s5 (by exact bK hR dz)) h):Q→P:=h
def De(h:Q→P:=by exact fun h=>oR (fk (r:=(U5.g B (a:Int))*16777216) rfl rfl dec (aC.vl (n:=24) rfl dec rfl omg omg)) h):Q→P:=h
def Ef(h:Q→P:=by exact fun h=>oR (cn (v:=I6 ((a+1:Nat):Int)) (dw rfl rfl wI) (by congr 1)) h):Q→P:=h
def Dm(h:Q→P:=by exact fun h=>oR (fk (r:=(U5.g B ((a+1:Nat):Int))*65536) rfl rfl dec (aC.vl (n:=16) rfl dec rfl omg omg)) h):Q→P:=h
def DT(h:Q→P:=by exact fun h=>oR (kq (r:=(U5.g B (a:Int))*16777216+(U5.g B ((a+1:Nat):Int))*65536) rfl rfl (aC.pQ (u:=(U5.g B (a:Int))) (n:=24) omg omg omg omg)) h):Q→P:=h
def DX(h:Q→P:=by exact fun h=>oR (cn (v:=I6 ((a+2:Nat):Int)) (dw rfl rfl wI) (by congr 1)) h):Q→P:=h
def EC(h:Q→P:=by exact fun h=>oR (fk (r:=(U5.g B ((a+2:Nat):Int))*256) rfl rfl dec (aC.vl (n:=8) rfl dec rfl omg omg)) h):Q→P:=h
def Er(h:Q→P:=by exact fun h=>oR (kq (r:=(U5.g B (a:Int))*16777216+(U5.g B ((a+1:Nat):Int))*65536+(U5.g B ((a+2:Nat):Int))*256) rfl rfl (aC.pQ (u:=(U5.g B (a:Int))*256+(U5.g B ((a+1:Nat):Int))) (n:=16) omg omg omg omg)) h):Q→P:=h
def El(h:Q→P:=by exact fun h=>oR (cn (v:=I6 ((a+3:Nat):Int)) (dw rfl rfl wI) (by congr 1)) h):Q→P:=h
def Di(h:Q→P:=by exact fun h=>oR (kq (r:=(U5.g B (a:Int))*16777216+(U5.g B ((a+1:Nat):Int))*65536+(U5.g B ((a+2:Nat):Int))*256+(U5.g B ((a+3:Nat):Int))) rfl rfl (aC.pQ (u:=(U5.g B (a:Int))*65536+(U5.g B ((a+1:Nat):Int))*256+(U5.g B ((a+2:Nat):Int))) (n:=8) omg omg omg omg)) h):Q→P:=h
def Iq(h:Q→P:=by exact fun h=>oV (cn (v:=I6 ((a+4:Nat):Int)) (dw rfl rfl wI) (by congr 1)) h):Q→P:=h
def pA(h:Q→P:=by exact fun h=>oV (cn (v:=I6 ((a+8:Nat):Int)) (dw rfl rfl wI) (by congr 1)) h):Q→P:=h
def HP(h:Q→P:=by exact fun h=>oV (dZ (a+4) (a+8) c V.bT rfl ⟨_,rfl⟩ ⟨_,rfl⟩ rfl omg omg omg) h):Q→P:=h
def IL(h:Q→P:=by exact fun h=>oV (px (T:=5) Tryz.underlying22 Tryz.underlying5 Tryz.underlying9 rfl (by exact bK hKS dz)) h):Q→P:=h
def Nt(h:Q→P:=by exact fun h=>oC (kz (((B.drop a).drop 4).take 4) (aa.dS (aa.cA hZB 4) 4) (by rw[aa.gy omg];decide) true (decide_eq_true hnm).symm) V.BG rfl .nil rfl h):Q→P:=h
def CF(h:Q→P:=by exact fun h=>oV (cn (v:=I6 ((a+8+n:Nat):Int)) (dw rfl rfl wI) (by congr 1)) h):Q→P:=h
def Wo(h:Q→P:=by exact fun h=>oV (dZ (a+8) (a+8+n) c V.bT rfl ⟨_,rfl⟩ ⟨_,rfl⟩ rfl omg omg omg) h):Q→P:=h
def Oi(h:Q→P:=by exact fun h=>S9 (Row (U5) none 0 0 []) (Row.nil _ _ _) h):Q→P:=h
def Sn(h:Q→P:=by exact fun h=>ei (c:=(U5)) V.bT V.z5 rfl rfl rfl rfl dJ (by exact bK hDS fX) omg rfl h):Q→P:=h
def pW(h:Q→P:=by exact fun h=>oR (xI V.bT (by exact bK hR fX)) h):Q→P:=h
def ql(h:Q→P:=by exact fun h=>oR (xL V.s5 (by exact bK hR fX)) h):Q→P:=h
def Tl(h:Q→P:=by exact fun h=>oR (fk (r:=(U5.g B (((a+8+n):Nat):Int))*16777216) rfl rfl dec (aC.vx (n:=24) rfl dec rfl omg omg)) h):Q→P:=h
def Sc(h:Q→P:=by exact fun h=>oR (cn (v:=I6 (((a+8+n)+1:Nat):Int)) (dw rfl rfl wI) (by congr 1)) h):Q→P:=h
def Wb(h:Q→P:=by exact fun h=>oR (fk (r:=(U5.g B (((a+8+n)+1:Nat):Int))*65536) rfl rfl dec (aC.vx (n:=16) rfl dec rfl omg omg)) h):Q→P:=h
def Uc(h:Q→P:=by exact fun h=>oR (kq (r:=(U5.g B (((a+8+n):Nat):Int))*16777216+(U5.g B (((a+8+n)+1:Nat):Int))*65536) rfl rfl (aC.vw (u:=(U5.g B (((a+8+n):Nat):Int))) (n:=24) omg omg omg omg)) h):Q→P:=h
def V7(h:Q→P:=by exact fun h=>oR (cn (v:=I6 (((a+8+n)+2:Nat):Int)) (dw rfl rfl wI) (by congr 1)) h):Q→P:=h
def S0(h:Q→P:=by exact fun h=>oR (fk (r:=(U5.g B (((a+8+n)+2:Nat):Int))*256) rfl rfl dec (aC.vx (n:=8) rfl dec rfl omg omg)) h):Q→P:=h
def UW(h:Q→P:=by exact fun h=>oR (kq (r:=(U5.g B (((a+8+n):Nat):Int))*16777216+(U5.g B (((a+8+n)+1:Nat):Int))*65536+(U5.g B (((a+8+n)+2:Nat):Int))*256) rfl rfl (aC.vw (u:=(U5.g B (((a+8+n):Nat):Int))*256+(U5.g B (((a+8+n)+1:Nat):Int))) (n:=16) omg omg omg omg)) h):Q→P:=h
def SC(h:Q→P:=by exact fun h=>oR (cn (v:=I6 (((a+8+n)+3:Nat):Int)) (dw rfl rfl wI) (by congr 1)) h):Q→P:=h
def R5(h:Q→P:=by exact fun h=>oR (kq (r:=(U5.g B (((a+8+n):Nat):Int))*16777216+(U5.g B (((a+8+n)+1:Nat):Int))*65536+(U5.g B (((a+8+n)+2:Nat):Int))*256+(U5.g B (((a+8+n)+3:Nat):Int))) rfl rfl (aC.vw (u:=(U5.g B (((a+8+n):Nat):Int))*65536+(U5.g B (((a+8+n)+1:Nat):Int))*256+(U5.g B (((a+8+n)+2:Nat):Int))) (n:=8) omg omg omg omg)) h):Q→P:=h
def R3(h:Q→P:=by exact fun h=>oC (DQ (((B.drop a).drop 4).take 4) hk4 (by rw[aa.gy omg];decide) p87 c87 (((B.drop a).drop 8).take n) (Row U5 p87 (((B.drop a).drop 8).take n).length c87 (((B.drop a).drop 8).take n)) (fun _ _ hh=>hh.rd) (by rw[hdl];omega) uy) V.ZU rfl (an .nil) rfl h):Q→P:=h
def Z4(h:Q→P:=by exact fun h=>oV (cn (v:=I6 ((a+12+n:Nat):Int)) (dw rfl rfl wI) (by congr 1;omega)) h):Q→P:=h
def Zi(h:Q→P:=by exact fun h=>oV (cE V.Kp V.Dj rfl (cs:=[.string (strOfNums (((B.drop a).drop 4).take 4)),.slice p87 (((B.drop a).drop 8).take n).length c87]) rfl) h):Q→P:=h
def Q7V(h:Q→P:=by exact fun h=>cg (aP) [(Ce.mk (((B.drop a).drop 4).take 4) p87 c87 (((B.drop a).drop 8).take n))] V.nL V.Dj rfl rfl rfl rfl rfl rfl h):Q→P:=h
def Q7W(h:Q→P:=by exact fun h=>ei (c:=(aP)) V.nL V.Dj rfl rfl rfl rfl aL (own ay) omg rfl h):Q→P:=h
def Q7X(h:Q→P:=by exact fun h=>bA (aS (A:=DK (es++[(Ce.mk (((B.drop a).drop 4).take 4) p87 c87 (((B.drop a).drop 8).take n))])) (G:=[DK es,Row U5 p87 (((B.drop a).drop 8).take n).length c87 (((B.drop a).drop 8).take n)]) (.cons cB (.cons aL .nil)) aj (fun w0 h hh=>Ds (x:=(Ce.mk (((B.drop a).drop 4).take 4) p87 c87 (((B.drop a).drop 8).take n))) rfl hh)) h):Q→P:=h
def ox(h:Q→P:=by exact fun h=>oV (xI V.nL (by exact bK hR ay)) h):Q→P:=h
def qu(h:Q→P:=by exact fun h=>oV (bP V.Fh rfl) h):Q→P:=h
def uA(h:Q→P:=by exact fun h=>oV (fE (c:=(aP)) 0 V.s9 rfl (by exact bK hR ay) omg omg rfl rfl) h):Q→P:=h
def TD(h:Q→P:=by exact fun h=>oV (fD (aa.aT hxk) (aa.aT aa.xz) rfl (show au _ _=some (.string (strOfNums aa.bM)) by unfold aa.bM;rfl) (decide_eq_true a0).symm) h):Q→P:=h
def sY(h:Q→P:=by exact fun h=>oV (bP V.E9 rfl) h):Q→P:=h
def Iw(h:Q→P:=by exact fun h=>oV (fE (c:=(aP)) 1 V.kO rfl (by exact bK hR ay) omg omg rfl rfl) h):Q→P:=h
def yZ(h:Q→P:=by exact fun h=>oV (bQ (bO rfl rfl) omg) h):Q→P:=h
def QM(h:Q→P:=by exact fun h=>oV (bC (bO rfl rfl) omg) h):Q→P:=h
def JD(h:Q→P:=by exact fun h=>oV (fD (aa.aT hxk) (aa.aT aa.xz) rfl (show au _ _=some (.string (strOfNums aa.bM)) by unfold aa.bM;rfl) (decide_eq_false a0).symm) h):Q→P:=h
def W8(h:Q→P:=by exact fun h=>oV (fD (aa.aT hxk) (aa.aT aa.mO) rfl (show au _ _=some (.string (strOfNums aa.aY)) by unfold aa.aY;rfl) (decide_eq_true a1).symm) h):Q→P:=h
def TL(h:Q→P:=by exact fun h=>oV (fD (aa.aT hxk) (aa.aT aa.mO) rfl (show au _ _=some (.string (strOfNums aa.aY)) by unfold aa.aY;rfl) (decide_eq_false a1).symm) h):Q→P:=h
def Ob(h:Q→P:=by exact fun h=>oV (fD (aa.aT hxk) (aa.aT aa.mM) rfl (show au _ _=some (.string (strOfNums aa.aW)) by unfold aa.aW;rfl) (decide_eq_true a2).symm) h):Q→P:=h
def Q7Y(h:Q→P:=by exact fun h=>oV (cn (v:=I6 ((i-1:Nat):Int)) (k5 rfl rfl wI) (by congr 1;omega)) h):Q→P:=h
def wa(h:Q→P:=by exact fun h=>oV (fD (aa.aT hxk) (aa.aT aa.mM) rfl (show au _ _=some (.string (strOfNums aa.aW)) by unfold aa.aW;rfl) (decide_eq_false a2).symm) h):Q→P:=h
def SB(h:Q→P:=by exact fun h=>oV (fD (aa.aT hxk) (aa.aT aa.mQ) rfl (show au _ _=some (.string (strOfNums aa.aR)) by unfold aa.aR;rfl) (decide_eq_true a3).symm) h):Q→P:=h
def H3(h:Q→P:=by exact fun h=>oV (fD (aa.aT hxk) (aa.aT aa.mQ) rfl (show au _ _=some (.string (strOfNums aa.aR)) by unfold aa.aR;rfl) (decide_eq_false a3).symm) h):Q→P:=h
def ZO(h:Q→P:=by exact fun h=>oV (fD (aa.aT hxk) (aa.aT aa.mD) rfl (show au _ _=some (.string (strOfNums aa.ba)) by unfold aa.ba;rfl) (decide_eq_true a4).symm) h):Q→P:=h
def TE(h:Q→P:=by exact fun h=>oV (fD (aa.aT hxk) (aa.aT aa.mD) rfl (show au _ _=some (.string (strOfNums aa.ba)) by unfold aa.ba;rfl) (decide_eq_false a4).symm) h):Q→P:=h
def ZR(h:Q→P:=by exact fun h=>oC (kz (aP.g es (i:Int)).k hxk omg true (decide_eq_true a5).symm) V.BG rfl .nil rfl h):Q→P:=h
def Q4t(h:Q→P:=by exact fun h=>oV (kW (r:=16384/h) rfl rfl omg (aa.sS omg)) h):Q→P:=h
def ti(h:Q→P:=by exact fun h=>de V.zd rfl h):Q→P:=h
def Q3J(h:Q→P:=by exact fun h=>oC (oM w h) V.zZ rfl .nil rfl h):Q→P:=h
def Q81(h:Q→P:=by exact fun h=>oV (cn (v:=I6 ((4*w*h).toNat:Int)) (fR rfl rfl wI) (by congr 1;omega)) h):Q→P:=h
def Q82(h:Q→P:=by exact fun h=>mL ((4*w*h).toNat) ((4*w*h).toNat) (aK 62 .u16) rfl rfl V.iJ V.Hr rfl rfl rfl rfl omg omg rfl rfl h):Q→P:=h
def Q83(h:Q→P:=by exact fun h=>oV (cE V.x7 V.zd rfl (cs:=[I6 w,I6 h,.slice (soz nU) ((4*w*h).toNat) ((4*w*h).toNat)]) rfl) h):Q→P:=h
def Zn(h:Q→P:=by exact fun h=>cC (aZ V.ff rfl rfl (us:=[_,_,_]) rfl rfl (by exact qn) (by exact Nat.le_of_ble_eq_true rfl) rfl) h):Q→P:=h
def Q84(h:Q→P:=by exact fun h=>oV (cE V.x7 V.zd rfl (cs:=[I6 0,I6 0,.slice none 0 0]) rfl) h):Q→P:=h
def Dz(h:Q→P:=by exact fun h=>cC (aZ V.ff rfl rfl (us:=[_,_,_]) rfl rfl (by exact ft) (by exact Nat.le_of_ble_eq_true rfl) rfl) h):Q→P:=h
def Q4v(h:Q→P:=by exact fun h=>oC (mh w h) V.r4 rfl .nil rfl h):Q→P:=h
def WK(h:Q→P:=by exact fun h=>jg rfl (cs:=[_,_,_]) rfl rfl h):Q→P:=h
def M5(h:Q→P:=by exact fun h=>oV (bP V.w3 rfl) h):Q→P:=h
def Ts(h:Q→P:=by exact fun h=>cC (aZ V.a145 rfl rfl (us:=[_,_,_,_,_,_]) rfl rfl (by exact ft) (by exact Nat.le_of_ble_eq_true rfl) rfl) h):Q→P:=h
def Ta(h:Q→P:=by exact fun h=>oV (bU V.a145 rfl ay (vs:=[_,_,_,_,_,_]) rfl rfl) h):Q→P:=h
def ZH(h:Q→P:=by exact fun h=>nV (fun y hA L=>fR (r:=(x.h*(1+aa.eC x.w bits))) rfl rfl wI) h):Q→P:=h
def Du(h:Q→P:=by exact fun h=>oV (xI V.qU (by exact bK hR ay)) h):Q→P:=h
def Nc(h:Q→P:=by exact fun h=>oV (bP V.Me rfl) h):Q→P:=h
def Nx(h:Q→P:=by exact fun h=>oV (cn (v:=.int .i64 x.w) (fE (c:=gY) 4 V.s3 rfl (by exact bK hR ay) omg omg rfl rfl) (by rw[hx])) h):Q→P:=h
def Q86(h:Q→P:=by exact fun h=>oV (cn (v:=.int .i64 x.h) (fE (c:=gY) 5 V.s3 rfl (by exact bK hR ay) omg omg rfl rfl) (by rw[hx])) h):Q→P:=h
def Q87(h:Q→P:=by exact fun h=>cC (aZ V.Nb rfl rfl (us:=[_,_,_,_,_,_]) rfl rfl (by exact ft) (by exact Nat.le_of_ble_eq_true rfl) rfl) h):Q→P:=h
def Dr(h:Q→P:=by exact fun h=>oR (aB V.kO rfl ay rfl) h):Q→P:=h
def GH(h:Q→P:=by exact fun h=>oR (aB V.s3 rfl ay rfl) h):Q→P:=h
def WI(h:Q→P:=by exact fun h=>oR (kW rfl rfl omg (so omg omg omg)) h):Q→P:=h
def Q88(h:Q→P:=by exact fun h=>oV (fk (r:=2*(aa.cL B at_ k)) rfl rfl dec (aa.Yw omg)) h):Q→P:=h
def Q89(h:Q→P:=by exact fun h=>oV (kq (r:=(aa.cL B at_ (k+1))) rfl rfl (aa.orH omg)) h):Q→P:=h
def Tz(h:Q→P:=by exact fun h=>jg rfl (cs:=[_,_,_,_,_]) rfl rfl h):Q→P:=h
def AI(h:Q→P:=by exact fun h=>oV (fk (r:=P) rfl rfl omg ((aa.ym hd).trans hP.symm)) h):Q→P:=h
def Q8a(h:Q→P:=by exact fun h=>oV (kW (r:=65535/(P-1)) rfl rfl omg (so omg omg omg)) h):Q→P:=h
def sv(h:Q→P:=by exact fun h=>oV (bC (bG rfl rfl) dec) h):Q→P:=h
def wQ(h:Q→P:=by exact fun h=>oV (bU V.ff rfl ay (vs:=[_,_,_]) rfl rfl) h):Q→P:=h
def sa(h:Q→P:=by exact fun h=>oV (bU V.ff rfl cX (vs:=[_,_,_]) rfl rfl) h):Q→P:=h
def NM(h:Q→P:=by exact fun h=>nR (fun y FF hA=>aB V.uO rfl ay rfl) h):Q→P:=h
def YW(h:Q→P:=by exact fun h=>nE (fun y FF hA=>LH (WY (c:=(aK 62 .u16)) (k:=(4*(yy*w+xx)).toNat) (n:=n) (cap:=c) (l:=l) (ws:=[c0,c1,c2,c3]) (cnt:=4) rfl V.iJ rfl rfl ij.head (caH (by exact .head _)) omg omg omg omg) (.refl _)) h):Q→P:=h
def Q8c(h:Q→P:=by exact fun h=>bA (M:=ai b7 68 (CA [] .u16 [c0,c1,c2,c3] [])::ai b4 26 [I6 w,I6 h,.slice q n c]::Row (aK 62 .u16) q n c (aa.ko w l xx yy [c0,c1,c2,c3])::F) (fun _ _ h=>h) h):Q→P:=h
def NV(h:Q→P:=by exact fun h=>oC (wD w1 h1 q1 n1 c1 true (decide_eq_true a).symm) V.kM rfl .nil rfl h):Q→P:=h
def TA(h:Q→P:=by exact fun h=>oC (wD w2 h2 q2 n2 c2 true (decide_eq_true a2).symm) V.kM rfl .nil rfl h):Q→P:=h
def IF(h:Q→P:=by exact fun h=>oV (bP V.E4 rfl) h):Q→P:=h
def lY(h:Q→P:=by exact fun h=>rL TT 5 rfl h):Q→P:=h
def N3(h:Q→P:=by exact fun h=>oR (bP V.wU rfl) h):Q→P:=h
def As(h:Q→P:=by exact fun h=>nR (fun y FF hA=>aB V.V3 rfl ay rfl) h):Q→P:=h
def Cj(h:Q→P:=by exact fun h=>oV (cE V.Si V.zc rfl (cs:=[_,_,_,_,_]) rfl) h):Q→P:=h
def za(h:Q→P:=by exact fun h=>cC (aZ V.qk rfl rfl (us:=[_,_,_,_,_]) rfl rfl (by exact ft) (by exact Nat.le_of_ble_eq_true rfl) rfl) h):Q→P:=h
def Qt(h:Q→P:=by exact fun h=>oV (aB V.s3 rfl fX rfl) h):Q→P:=h
def zY(h:Q→P:=by exact fun h=>oV (bP V.zL rfl) h):Q→P:=h
def BB(h:Q→P:=by exact fun h=>cC (aZ V.qk rfl rfl (us:=[_,_,_,_,_]) rfl rfl (by exact xr) (by exact Nat.le_of_ble_eq_true rfl) rfl) h):Q→P:=h
def DZ(h:Q→P:=by exact fun h=>oC (HF (B.getD 9 0) (B.getD 8 0) true (decide_eq_true a1).symm) V.b57 rfl .nil rfl h):Q→P:=h
def HU(h:Q→P:=by exact fun h=>oV (bC (cR rfl rfl) a2) h):Q→P:=h
def M8(h:Q→P:=by exact fun h=>oV (bC (cR rfl rfl) a3) h):Q→P:=h
def MT(h:Q→P:=by exact fun h=>oV (bC (bG rfl rfl) a4) h):Q→P:=h
def Aw(h:Q→P:=by exact fun h=>oV (cE V.Fo V.uF rfl (cs:=[_,_,_,_,_]) rfl) h):Q→P:=h
def Jg(h:Q→P:=by exact fun h=>cC (aZ V.iy rfl rfl (us:=[_,_,_,_,_]) rfl rfl (by exact ft) (by exact Nat.le_of_ble_eq_true rfl) rfl) h):Q→P:=h
def QY(h:Q→P:=by exact fun h=>oV (aB V.s3 rfl dz rfl) h):Q→P:=h
def DI(h:Q→P:=by exact fun h=>oV (bC (bG rfl rfl) e0) h):Q→P:=h
def MC(h:Q→P:=by exact fun h=>oV (bC (bG rfl rfl) e1) h):Q→P:=h
def Nr(h:Q→P:=by exact fun h=>oV (bC (bG rfl rfl) e2) h):Q→P:=h
def Bh(h:Q→P:=by exact fun h=>cC (aZ V.iy rfl rfl (us:=[_,_,_,_,_]) rfl rfl (by exact qn) (by exact Nat.le_of_ble_eq_true rfl) rfl) h):Q→P:=h
def AO(h:Q→P:=by exact fun h=>oC (tO (B.getD 9 0)) V.nU rfl .nil rfl h):Q→P:=h
def D8(h:Q→P:=by exact fun h=>oV (bQ (bG rfl rfl) a2) h):Q→P:=h
def oN(h:Q→P:=by exact fun h=>oV (bC (bG rfl rfl) a2) h):Q→P:=h
def mv(h:Q→P:=by exact fun h=>oV (xI V.bT (by exact bK hR dz)) h):Q→P:=h
def m8(h:Q→P:=by exact fun h=>oV (xL V.s5 (by exact bK hR dz)) h):Q→P:=h
def Dq(h:Q→P:=by exact fun h=>oV (bC (bO rfl rfl) a3) h):Q→P:=h
def He(h:Q→P:=by exact fun h=>oV (bC (bO rfl rfl) a4) h):Q→P:=h
def M4(h:Q→P:=by exact fun h=>oV (bC (cR rfl rfl) a5) h):Q→P:=h
def H7(h:Q→P:=by exact fun h=>oV (bP V.XA rfl) h):Q→P:=h
def Q8d(h:Q→P:=by exact fun h=>cC (ew V.kO rfl rfl rfl (by exact qn) (by exact Nat.le_of_ble_eq_true rfl) rfl) h):Q→P:=h
def UI(h:Q→P:=by exact fun h=>oV (fD (aa.aT hxk) (aa.aT aa.mQ) rfl (show au _ _=some (.string (strOfNums aa.aR)) by unfold aa.aR;rfl) (decide_eq_false a0).symm) h):Q→P:=h
def Q8e(h:Q→P:=by exact fun h=>oV (fD (aa.aT hxk) (aa.aT aa.mD) rfl (show au _ _=some (.string (strOfNums aa.ba)) by unfold aa.ba;rfl) (decide_eq_false a1).symm) h):Q→P:=h
def Mf(h:Q→P:=by exact fun h=>cC (aZ V.Sf rfl rfl (us:=[_,_,_,_,_,_,_,_,_]) rfl rfl (by exact ft) (by exact Nat.le_of_ble_eq_true rfl) rfl) h):Q→P:=h
def CS(h:Q→P:=by exact fun h=>oV (bQ (bG rfl rfl) a1) h):Q→P:=h
def n4(h:Q→P:=by exact fun h=>oV (bC (bG rfl rfl) a1) h):Q→P:=h
def Q4H(h:Q→P:=by exact fun h=>wN [pz 0 [] [0],pz 1 [0] [],pz 3 [1] [],pz 7 [2] [],pz 15 [3] [],pz 0 [] [0],pz 32 [5] [],pz 96 [6] [],pz 224 [7] [],pz 480 [8] [],pz 992 [9] [],pz 2016 [10] [],pz 4095 [4,11] []] [⟨fun y=>ai bf 90 (hVz h.w h.h h.dep h.ak h.aV pp pl.length cp pt tr.length ct [.slice pd nd cd,.slice none 0 0]),none,none,[3,9]⟩,⟨fun y=>R,none,none,[]⟩] F V.mixed h):Q→P:=h
def Q0w(h:Q→P:=by exact fun h=>nG V.iS h):Q→P:=h
def Q3d(h:Q→P:=by exact fun h=>nE (fun y FF hA=>aO (Post:=[]) (gV h.ak) V.pg rfl .nil (fun v G h=>by rcases h with⟨rfl,rfl⟩;exact⟨rfl,.refl _⟩)) h):Q→P:=h
def Q4I(h:Q→P:=by exact fun h=>bW _ (.cons (d:=0) rfl (.cons (d:=42) rfl (.nil _))) h):Q→P:=h
def Q4J(h:Q→P:=by exact fun h=>bA (M:=ai bf 90 (hVz h.w h.h h.dep h.ak h.aV pp pl.length cp pt tr.length ct [.slice pd nd cd,.slice none 0 0])::R::F) (fun _ _ h=>h) h):Q→P:=h
def uJ(h:Q→P:=by exact fun h=>de V.oY rfl h):Q→P:=h
def Hi(h:Q→P:=by exact fun h=>cC (aZ V.jQ rfl rfl (us:=[_,_,_,_]) rfl rfl (by exact ft) (by exact Nat.le_of_ble_eq_true rfl) rfl) h):Q→P:=h
def Q6a(h:Q→P:=by exact fun h=>nR (fun y FF hA=>xI V.bT (by exact bK hS ay)) h):Q→P:=h
def Q6b(h:Q→P:=by exact fun h=>nR (fun y FF hA=>xL V.s5 (by exact bK hS ay)) h):Q→P:=h
def Q1X(h:Q→P:=by exact fun h=>nE (fun y FF hA=>dm (aZ V.jQ rfl rfl (us:=[_,_,_,_]) rfl rfl (by exact ft) (by exact Nat.le_of_ble_eq_true rfl) rfl) ⟨rfl,.refl _⟩) h):Q→P:=h
def Q4K(h:Q→P:=by exact fun h=>bW _ (.cons (d:=4) rfl (.cons (d:=5) rfl (.nil _))) h):Q→P:=h
def TN(h:Q→P:=by exact fun h=>ao [(0,_),(1,_)] Tryz.func151 rfl Tryz.ntmps151 rfl rfl h):Q→P:=h
def US(h:Q→P:=by exact fun h=>cC (aZ V.jQ rfl rfl (us:=[_,_,_,_]) rfl rfl (by exact xr) (by exact Nat.le_of_ble_eq_true rfl) rfl) h):Q→P:=h
def Q8f(h:Q→P:=by exact fun h=>wN [pz 0 [] [6],pz 1 [0] [],pz 3 [1] [],pz 0 [] [6],pz 8 [3] [],pz 24 [4] [],pz 0 [] [6],pz 64 [6] [],pz 192 [7] [],pz 0 [] [11],pz 1023 [2,5,8,9] [],pz 2047 [10] [4],pz 4095 [] []] [⟨fun y=>Row (aK 62 .u16) ps v.length cs (v.map (aa.up h.dep)),none,none,[1,2,4,5,7,8]⟩,⟨fun y=>ai b4 68 [.int .u16 0,.int .u16 0,.int .u16 0,.int .u16 0],none,some 11,[]⟩,⟨fun y=>ai bf 90 (hVz h.w h.h h.dep h.ak h.aV pp pl.length cp pt tr.length ct [.slice pd nd cd,.slice pk (aa.bd h tr).length ck]),none,none,[]⟩,⟨fun y=>Rk,none,none,[]⟩,⟨fun y=>Rv,none,none,[]⟩,⟨fun y=>R,none,none,[]⟩,⟨fun y=>ai b4 68 [.int .u16 ((aK 62 .u16).g (v.map (aa.up h.dep)) 0),.int .u16 ((aK 62 .u16).g (v.map (aa.up h.dep)) 0),.int .u16 ((aK 62 .u16).g (v.map (aa.up h.dep)) 0),.int .u16 al2],some 11,none,[]⟩] F V.mixed h):Q→P:=h
def Q1h(h:Q→P:=by exact fun h=>nR (fun y FF hA=>xI V.iJ (own ay)) h):Q→P:=h
def Q1Y(h:Q→P:=by exact fun h=>nR (fun y FF hA=>xL V.nH (own ay)) h):Q→P:=h
def Q8g(h:Q→P:=by exact fun h=>nV (fun y hA L=>gb V.lH V.oY rfl (cs:=[.int .u16 ((aK 62 .u16).g (v.map (aa.up h.dep)) 0),.int .u16 ((aK 62 .u16).g (v.map (aa.up h.dep)) 0),.int .u16 ((aK 62 .u16).g (v.map (aa.up h.dep)) 0),.int .u16 al2]) (by kernel_rfl)) h):Q→P:=h
def Q8h(h:Q→P:=by exact fun h=>bA (M:=Row (aK 62 .u16) ps v.length cs (v.map (aa.up h.dep))::ai bf 90 (hVz h.w h.h h.dep h.ak h.aV pp pl.length cp pt tr.length ct [.slice pd nd cd,.slice pk (aa.bd h tr).length ck])::Rk::Rv::R::ai b4 68 [.int .u16 ((aK 62 .u16).g (v.map (aa.up h.dep)) 0),.int .u16 ((aK 62 .u16).g (v.map (aa.up h.dep)) 0),.int .u16 ((aK 62 .u16).g (v.map (aa.up h.dep)) 0),.int .u16 al2]::F) (fun _ _ h=>h) h):Q→P:=h
def Q6e(h:Q→P:=by exact fun h=>bA (sub .nil (.skip (.keep (.keep (.keep (.keep (.keep .refl))))))) h):Q→P:=h
def YZ(h:Q→P:=by exact fun h=>nR (fun y FF hA=>bU V.iy rfl ay (vs:=[_,_,_,_,_]) rfl rfl) h):Q→P:=h
def Q2n(h:Q→P:=by exact fun h=>nV (fun y hA L=>bZ 0 rfl V.gX rfl rfl omg) h):Q→P:=h
def Q2o(h:Q→P:=by exact fun h=>nR (fun y FF hA=>eh (0:Int) V.s3 rfl ay (by(simp only[List.length_cons,List.length_nil];omega)) omg omg) h):Q→P:=h
def Q2p(h:Q→P:=by exact fun h=>nE (fun y FF hA=>aO (Post:=[]) (kQ h.w h.h h.ak h.aV h.dep ((aa.bu (aa.aM h row x) N).getD ((0:Int).toNat) 0) hd (hr 0 omg)) V.nc rfl .nil (fun v G h=>by rcases h with⟨rfl,rfl⟩;exact⟨rfl,.refl _⟩)) h):Q→P:=h
def MW(h:Q→P:=by exact fun h=>bW [(10,.pointer (soz b10)),(11,.bool true)] (.cons (d:=10) rfl (.cons (d:=11) rfl (.nil _))) h):Q→P:=h
def Q6f(h:Q→P:=by exact fun h=>nV (fun y hA L=>bZ 1 rfl V.gX rfl rfl omg) h):Q→P:=h
def Q6g(h:Q→P:=by exact fun h=>nR (fun y FF hA=>eh (1:Int) V.s3 rfl ay (by(simp only[List.length_cons,List.length_nil];omega)) omg omg) h):Q→P:=h
def Q6h(h:Q→P:=by exact fun h=>nE (fun y FF hA=>aO (Post:=[]) (kQ h.w h.h h.ak h.aV h.dep ((aa.bu (aa.aM h row x) N).getD ((1:Int).toNat) 0) hd (hr 1 omg)) V.nc rfl .nil (fun v G h=>by rcases h with⟨rfl,rfl⟩;exact⟨rfl,.refl _⟩)) h):Q→P:=h
def Q8i(h:Q→P:=by exact fun h=>nR (fun y FF hA=>eh (2:Int) V.s3 rfl ay (by(simp only[List.length_cons,List.length_nil];omega)) omg omg) h):Q→P:=h
def Q8j(h:Q→P:=by exact fun h=>nE (fun y FF hA=>aO (Post:=[]) (kQ h.w h.h h.ak h.aV h.dep ((aa.bu (aa.aM h row x) N).getD ((2:Int).toNat) 0) hd (hr 2 omg)) V.nc rfl .nil (fun v G h=>by rcases h with⟨rfl,rfl⟩;exact⟨rfl,.refl _⟩)) h):Q→P:=h
def VE(h:Q→P:=by exact fun h=>nR (fun y FF hA=>xI V.bT (by exact bK hP ay)) h):Q→P:=h
def WM(h:Q→P:=by exact fun h=>nR (fun y FF hA=>xL V.s5 (by exact bK hP ay)) h):Q→P:=h
def Z5(h:Q→P:=by exact fun h=>oV (cn (v:=I6 (aa.off a y)) (zJ rfl rfl) (congrArg (Value.int .i64) (aa.SE a y))) h):Q→P:=h
def Hm(h:Q→P:=by exact fun h=>mf TT 16 rfl omg h):Q→P:=h
def yL(h:Q→P:=by exact fun h=>oC (F2 (x+y-z) omg x hx) V.Ky rfl .nil rfl h):Q→P:=h
def wg(h:Q→P:=by exact fun h=>oC (F2 (x+y-z) omg y hy) V.Ky rfl .nil rfl h):Q→P:=h
def DR(h:Q→P:=by exact fun h=>oV (bQ (il rfl rfl) q1) h):Q→P:=h
def Bu(h:Q→P:=by exact fun h=>oC (F2 (x+y-z) omg z hz) V.Ky rfl .nil rfl h):Q→P:=h
def Ma(h:Q→P:=by exact fun h=>oV (bC (il rfl rfl) q2) h):Q→P:=h
def NJ(h:Q→P:=by exact fun h=>oV (bQ (il rfl rfl) q3) h):Q→P:=h
def Om(h:Q→P:=by exact fun h=>oV (bC (il rfl rfl) q3) h):Q→P:=h
def Mm(h:Q→P:=by exact fun h=>oV (bC (il rfl rfl) q1) h):Q→P:=h
def Gy(h:Q→P:=by exact fun h=>oC (Ay (x+y-z) omg x hx) V.Km rfl .nil rfl h):Q→P:=h
def Hh(h:Q→P:=by exact fun h=>oC (Ay (x+y-z) omg y hy) V.Km rfl .nil rfl h):Q→P:=h
def II(h:Q→P:=by exact fun h=>oC (Ay (x+y-z) omg z hz) V.Km rfl .nil rfl h):Q→P:=h
def Zs(h:Q→P:=by exact fun h=>oV (kW (r:=((aa.gz L1 i back)+(L2.getD i 0))/2) rfl rfl omg (so omg omg omg)) h):Q→P:=h
def NS(h:Q→P:=by exact fun h=>oV (aB V.s3 rfl MI rfl) h):Q→P:=h
def ZY(h:Q→P:=by exact fun h=>(WV kind p1 c1 n1 L1 R1 hR1 hn1 hB1 p2 c2 n2 L2 R2 hR2 hn2 hB2 back hbk h2 hk hn1s).mono h):Q→P:=h
def Q8n(h:Q→P:=by exact fun h=>(FM h bf pp pl cp pt tr ct pd nd cd pk ck R hP hT hcp hB hBt hpl htl Rk hRk hf hs q n c hn hcap cN hpx0 p hp yy hyy pb cb row hrl hBr Rb hRb hbits).mono h):Q→P:=h
def Q6k(h:Q→P:=by exact fun h=>nV (fun y hA L=>fR (r:=(aa.parts h.ak*h.dep)) rfl rfl wI) h):Q→P:=h
def Q6l(h:Q→P:=by exact fun h=>nR (fun y FF hA=>xI V.bT (by exact bK hz ay)) h):Q→P:=h
def Q6m(h:Q→P:=by exact fun h=>nR (fun y FF hA=>xL V.s5 (by exact bK hz ay)) h):Q→P:=h
def Q6n(h:Q→P:=by exact fun h=>nV (fun y hA L=>cn (v:=I6 (Dt.getD s.a 0)) (cS V.u5 Tryz.underlying3 rfl (aa.o8 hKB)) (congrArg (Value.int .i64) hKD)) h):Q→P:=h
def Ti(h:Q→P:=by exact fun h=>nV (fun y hA L=>cn (v:=I6 ((nr+1:Nat):Int)) (dw (r:=1+(nr:Int)) rfl rfl wI) (congrArg (Value.int .i64) omg)) h):Q→P:=h
def V0(h:Q→P:=by exact fun h=>nV (fun y hA L=>dZ 1 (nr+1) s.cz V.bT rfl ⟨_,rfl⟩ ⟨_,rfl⟩ rfl omg omg omg) h):Q→P:=h
def Q8o(h:Q→P:=by exact fun h=>jE [pz 0 [] [3],pz 1 [0] [],pz 3 [1] [],pz 7 [2] [],pz 0 [] [3],pz 0 [] [11],pz 32 [5] [],pz 112 [4,6] [],pz 0 [] [13],pz 0 [] [12],pz 1023 [3,7,8,9] [],pz 2047 [10] [],pz 4095 [11] [],pz 4095 [11] [],pz 8191 [12] [],pz 32767 [13] []] [⟨fun y=>Rb,none,none,[1,2,10]⟩,⟨fun y=>Row U5 s.pa s.na s.ca s.A,none,none,[10]⟩,⟨fun y=>ai b5 26 [I6 h.w,I6 h.h,.slice q n c],none,none,[]⟩,⟨fun y=>ai b6 145 [I6 p.x,I6 p.y,I6 p.dx,I6 p.dy,I6 p.w,I6 p.h],none,none,[]⟩,⟨fun y=>ai bf 90 (hVz h.w h.h h.dep h.ak h.aV pp pl.length cp pt tr.length ct [.slice pd nd cd,.slice pk (aa.bd h tr).length ck]),none,none,[]⟩,⟨fun y=>Row (aK 62 .u16) q n c s.P,none,none,[]⟩,⟨fun y=>Rk,none,none,[]⟩,⟨fun y=>R,none,none,[]⟩,⟨fun y=>Row U5 (fV (y 10)).1 nr (fV (y 10)).2 (aa.ee (Dt.getD s.a 0) ((Dt.drop (s.a+1)).take nr) s.A back),some 10,none,[]⟩] F V.mixed (by kernel_rfl) rfl (fun _=>.refl _) (aU _ (aU _ (aU _ (aU _ (aU _ (aU _ (aU _ (aU _ (dq _ rfl (by intro y y2 h;simp only[h 10 (.inl rfl)]) fw))))))))) h):Q→P:=h
def Q8p(h:Q→P:=by exact fun h=>fh (fun y v=>.tuple #[.slice (fV v).1 nr (fV v).2,.bool true]) (fun y v=>True) _ _ (fun y v=>[Row U5 (fV v).1 nr (fV v).2 (aa.ee (Dt.getD s.a 0) ((Dt.drop (s.a+1)).take nr) s.A back)]) _ (fun y=>rfl) (fun y=>rfl) (fun y=>rfl) (fun y=>rfl) (fun y FF hA=>ve (α:=Option Addr×Nat) (fun a=>.tuple #[.slice a.1 nr a.2,.bool true]) fV (fun a=>[Row U5 a.1 nr a.2 (aa.ee (Dt.getD s.a 0) ((Dt.drop (s.a+1)).take nr) s.A back),Rb,Row U5 s.pa s.na s.ca s.A]) (OD (Dt.getD s.a 0) (cM s.pz 1 s.cz 1) (s.cz-1) nr ((Dt.drop (s.a+1)).take nr) Rb hS1 hL1l (aa.dS (aa.cA hDB _) _) s.pa s.ca s.na s.A (Row U5 s.pa s.na s.ca s.A) (fun _ _ hh=>hh.rd) hAl hAB back hbk omg (hDB.get _).1 omg hk4) (fun a=>rfl) V.V4 rfl (aJ .nil)) (by intros;rfl) (by intros;rfl) (by intros;rfl) (by intro y y2 h;simp only[h 10 (.inl rfl)]) (by intro y y2 h;rfl) h):Q→P:=h
def ZA(h:Q→P:=by exact fun h=>dv _ (fun y=>rfl) rfl rfl rfl (fun y hA L=>dm (jh rfl) ⟨rfl,rfl⟩) (by intros;rfl) (by intro y y2 h;simp only[h 10 (.inr dec)]) h):Q→P:=h
def Zf(h:Q→P:=by exact fun h=>dv _ (fun y=>rfl) rfl rfl rfl (fun y hA L=>dm (fz rfl rfl) ⟨rfl,rfl⟩) (by intros;rfl) (by intro y y2 h;simp only[h 10 (.inr dec)]) h):Q→P:=h
def S5(h:Q→P:=by exact fun h=>nV (fun y hA L=>fz rfl rfl) h):Q→P:=h
def Q4S(h:Q→P:=by exact fun h=>dv _ (fun y=>rfl) rfl rfl rfl (fun y hA L=>dm (jZ rfl) ⟨rfl,rfl⟩) (by intros;rfl) (by intro y y2 h;simp only[h 10 (.inr dec)]) h):Q→P:=h
def Q8q(h:Q→P:=by exact fun h=>bW [(0,.pointer (soz bf)),(3,.slice s.pz (Dt.length-s.a) s.cz),(5,.pointer (soz b5)),(6,.pointer (soz b6)),(11,I6 (nr:Int)),(12,I6 (back:Int)),(14,I6 (yv:Int)),(15,.slice (fV (y 10)).1 nr (fV (y 10)).2),(16,.bool true),(37,I6 p.h),(38,I6 (yv:Int))] (.cons (d:=0) rfl (.cons (d:=3) rfl (.cons (d:=5) rfl (.cons (d:=6) rfl (.cons (d:=11) rfl (.cons (d:=12) rfl (.cons (d:=14) rfl (.cons (d:=15) rfl (.cons (d:=16) rfl (.cons (d:=37) rfl (.cons (d:=38) rfl (.nil _)))))))))))) h):Q→P:=h
def Q8r(h:Q→P:=by exact fun h=>bA (M:=Rb::Row U5 s.pa s.na s.ca s.A::ai b5 26 [I6 h.w,I6 h.h,.slice q n c]::ai b6 145 [I6 p.x,I6 p.y,I6 p.dx,I6 p.dy,I6 p.w,I6 p.h]::ai bf 90 (hVz h.w h.h h.dep h.ak h.aV pp pl.length cp pt tr.length ct [.slice pd nd cd,.slice pk (aa.bd h tr).length ck])::Row (aK 62 .u16) q n c s.P::Rk::R::Row U5 (fV (y 10)).1 nr (fV (y 10)).2 (aa.ee (Dt.getD s.a 0) ((Dt.drop (s.a+1)).take nr) s.A back)::F) (fun _ _ h=>h) h):Q→P:=h
def Q8s(h:Q→P:=by exact fun h=>bA (sub .nil (.keep (.skip (.keep (.keep (.keep (.keep (.keep (.keep (.keep .refl)))))))))) h):Q→P:=h
def Q8t(h:Q→P:=by exact fun h=>(Bw h bf pp pl cp pt tr ct pd nd cd pk ck R hP hT hcp hB hBt hpl htl Rk hRk hf hs q n c hn hcap cN hpx0 p hp Dt hDB hDl nr hnr back hback at0 hat pb cb Rb hRb hcb).mono h):Q→P:=h
def ng(h:Q→P:=by exact fun h=>oV (cE V.x7 V.zd rfl (cs:=[_,_,_]) rfl) h):Q→P:=h
def ME(h:Q→P:=by exact fun h=>cC (aZ V.ff rfl rfl (us:=[_,_,_]) rfl rfl (by exact Md) (by exact Nat.le_of_ble_eq_true rfl) rfl) h):Q→P:=h
def yT(h:Q→P:=by exact fun h=>cC (aZ V.ff rfl rfl (us:=[_,_,_]) rfl rfl (by exact pp4) (by exact Nat.le_of_ble_eq_true rfl) rfl) h):Q→P:=h
def Gu(h:Q→P:=by exact fun h=>aQ (SK p c B R hR hl hB hcap l h1) V.b37 rfl (.cons ar .nil) rfl h):Q→P:=h
def uH(h:Q→P:=by exact fun h=>oV (bC (bO rfl rfl) (fun q=>q rfl)) h):Q→P:=h
def Hq(h:Q→P:=by exact fun h=>oC (RT q13 c13 es (Row CK q13 es.length c13 es) (fun _ _ hh=>hh.rd) hel (oA hB h1) hcq) V.b38 rfl (an .nil) rfl h):Q→P:=h
def Ni(h:Q→P:=by exact fun h=>oV (fE (c:=(CK)) 1 V.kO rfl (own ay) omg omg rfl rfl) h):Q→P:=h
def N7(h:Q→P:=by exact fun h=>oC (SA (CK.g es 0).p (CK.g es 0).c (CK.g es 0).d (DK es) (xv (Wn h3)) (aa.fi hB h1 (CK.g es 0).ch (List.mem_map_of_mem (Wn h3)))) V.nW rfl (.cons ar .nil) rfl h):Q→P:=h
def WS(h:Q→P:=by exact fun h=>aQ (LM q13 c13 es (Row CK q13 es.length c13 es) (fun _ _ hh=>hh.rd) hel (oA hB h1) hco omg) V.b39 rfl (.cons aL (.cons ar .nil)) rfl h):Q→P:=h
def WX(h:Q→P:=by exact fun h=>oV (bU V.qk rfl ic (vs:=[_,_,_,_,_]) rfl rfl) h):Q→P:=h
def Q8u(h:Q→P:=by exact fun h=>cC (aZ V.ff rfl rfl (us:=[_,_,_]) rfl rfl (by exact Ss) (by exact Nat.le_of_ble_eq_true rfl) rfl) h):Q→P:=h
def Q8v(h:Q→P:=by exact fun h=>oC (uv h hd b8 s.pp s.P s.cp s.pt s.T s.ct s.pd s.D.length s.cd none 0 0 hlP s.hp true (decide_eq_true ht).symm) V.IH rfl (an .nil) rfl h):Q→P:=h
def Q8w(h:Q→P:=by exact fun h=>(WW kind p1 c1 n1 L1 R1 hR1 hn1 hB1 p2 c2 n2 L2 R2 hR2 hn2 hB2 back hbk h2 hk hn1s).mono h):Q→P:=h
def Q8x(h:Q→P:=by exact fun h=>(yg h pr row cr x pp pl cp pt tr ct Rr R hRr hP hT hf hrl hBr hx hbits).mono h):Q→P:=h
def Jh(h:Q→P:=by exact fun h=>aQ (UQ p c B R hR hl hB hcap l h1) V.NX rfl (.cons ar .nil) rfl h):Q→P:=h
def Ju(h:Q→P:=by exact fun h=>oC (Px q4 c4 es (Row aP q4 es.length c4 es) (fun _ _ hh=>hh.rd) hel (oA hB h1) hcq) V.b44 rfl (an .nil) rfl h):Q→P:=h
def Nw(h:Q→P:=by exact fun h=>oV (fE (c:=(aP)) 1 V.kO rfl (own ay) omg omg rfl rfl) h):Q→P:=h
def MN(h:Q→P:=by exact fun h=>oC (Fv (aP.g es 0).p (aP.g es 0).c (aP.g es 0).d (DK es) (xv (SO h3)) (aa.fi hB h1 (aP.g es 0).ch (List.mem_map_of_mem (SO h3)))) V.r8 rfl (.cons ar .nil) rfl h):Q→P:=h
def W2(h:Q→P:=by exact fun h=>aQ (DY q4 c4 es (Row aP q4 es.length c4 es) (fun _ _ hh=>hh.rd) hel (oA hB h1) [80,76,84,69] (by have:=aa.mQ;unfold aa.aR at this;exact this)) V.CX rfl (.cons aL .nil) rfl h):Q→P:=h
def WL(h:Q→P:=by exact fun h=>aQ (DY q4 c4 es (Row aP q4 es.length c4 es) (fun _ _ hh=>hh.rd) hel (oA hB h1) [116,82,78,83] (by have:=aa.mD;unfold aa.ba at this;exact this)) V.CX rfl (an .nil) rfl h):Q→P:=h
def Xb(h:Q→P:=by exact fun h=>oV (bU V.iy rfl cX (vs:=[_,_,_,_,_]) rfl rfl) h):Q→P:=h
def Q8y(h:Q→P:=by exact fun h=>oV (fE (c:=(aP)) 0 V.s9 rfl (own cX) omg omg rfl rfl) h):Q→P:=h
def NY(h:Q→P:=by exact fun h=>nV (fun y hA L=>cn (v:=I6 ((s.a+1:Nat):Int)) (dw (r:=(s.a:Int)+1) rfl rfl wI) rfl) h):Q→P:=h
def Q8z(h:Q→P:=by exact fun h=>nV (fun y hA L=>cn (v:=I6 ((s.a+1+nr:Nat):Int)) (dw (r:=((s.a+1:Nat):Int)+(nr:Int)) rfl rfl wI) rfl) h):Q→P:=h
def Y0(h:Q→P:=by exact fun h=>nV (fun y hA L=>cn (v:=.slice (cM qz (s.a+1) cqz 1) nr (cqz-(s.a+1))) (dZ (s.a+1) (s.a+1+nr) cqz V.bT rfl ⟨_,rfl⟩ ⟨_,rfl⟩ rfl omg omg omg) (by rw[Nat.add_sub_cancel_left])) h):Q→P:=h
def ZT(h:Q→P:=by exact fun h=>nV (fun y hA L=>cn (v:=I6 (back:Int)) (zJ rfl rfl) (congrArg (Value.int .i64) ((aa.Hw _).trans hback.symm))) h):Q→P:=h
def Q8C(h:Q→P:=by exact fun h=>oV (DL (r:= -(65535:Int)-1) rfl (ag.C0 omg omg)) h):Q→P:=h
def G0(h:Q→P:=by exact fun h=>ei (c:=(U5)) V.bT V.z5 rfl rfl rfl rfl ar (own ay) omg rfl h):Q→P:=h
def Q8D(h:Q→P:=by exact fun h=>oV (DL (r:= -(Z.length:Int)-1) rfl (ag.C0 omg omg)) h):Q→P:=h
def C1(h:Q→P:=by exact fun h=>oV (cS V.u3 Tryz.underlying5 rfl (ag.gU _)) h):Q→P:=h
def SV(h:Q→P:=by exact fun h=>nR (fun y FF hA=>xI V.nL (by exact bK hR ay)) h):Q→P:=h
def Z0(h:Q→P:=by exact fun h=>nR (fun y FF hA=>fE (c:=(aP)) 0 V.s9 rfl (by exact bK hR ay) omg omg rfl rfl) h):Q→P:=h
def Q8F(h:Q→P:=by exact fun h=>nR (fun y FF hA=>fE (c:=(aP)) 1 V.kO rfl (by exact bK hR ay) omg omg rfl rfl) h):Q→P:=h
def Q8G(h:Q→P:=by exact fun h=>nE (fun y FF hA=>dm (mK (c:=(aK 62 .u16)) (_) V.nH rfl rfl rfl (by exact ft) omg omg rfl rfl) ⟨rfl,.refl _⟩) h):Q→P:=h
def Qm(h:Q→P:=by exact fun h=>(Q9)<|(Q0) h):Q→P:=h
def Qk(h:Q→P:=by exact fun h=>(Qc)<|(Q0) h):Q→P:=h
def Qu(h:Q→P:=by exact fun h=>(Q7)<|(Q0) h):Q→P:=h
def nX(h:Q→P:=by exact fun h=>(Ql)<|(Q0) h):Q→P:=h
def QH(h:Q→P:=by exact fun h=>(QA)<|(Q1) h):Q→P:=h
def Q07(h:Q→P:=by exact fun h=>(QL)<|(Qm) h):Q→P:=h
def Q9k(h:Q→P:=by exact fun h=>(pG)<|(pC) h):Q→P:=h
def Q2K(h:Q→P:=by exact fun h=>(kg)<|(ke) h):Q→P:=h
def QZ(h:Q→P:=by exact fun h=>(Qo)<|(Qm) h):Q→P:=h
def Tq(h:Q→P:=by exact fun h=>oV (xI V.cy (by exact bK hR ic))<|oV (xL V.s3 (by exact bK hR ic)) h):Q→P:=h
def T3(h:Q→P:=by exact fun h=>oV (xI V.cy (by exact bK hR fX))<|oV (xL V.s3 (by exact bK hR fX)) h):Q→P:=h
def Vi(h:Q→P:=by exact fun h=>oV (xI V.cy (own fX))<|oV (xL V.s3 (own fX)) h):Q→P:=h
def QB(h:Q→P:=by exact fun h=>nA<|(Qi) h):Q→P:=h
def ZN(h:Q→P:=by exact fun h=>bW _ (.cons (d:=6) rfl (.cons (d:=42) rfl (.nil _)))<|bA (M:=R::Row U5 q22 x.length c22 x::F) (fun _ _ h=>h) h):Q→P:=h
def Zh(h:Q→P:=by exact fun h=>oV (fR (r:=(aa.up d x)) rfl rfl (aa.up_mul hP hd hx.1 hxP))<|oV (cS V.u3 Tryz.underlying62 rfl (aa.ml hui)) h):Q→P:=h
def Q0c(h:Q→P:=by exact fun h=>(Q2K)<|(ie) h):Q→P:=h
def Q3g(h:Q→P:=by exact fun h=>(Qk)<|(mv) h):Q→P:=h
def Q9l(h:Q→P:=by exact fun h=>(Q0)<|(m8) h):Q→P:=h
def Q3h(h:Q→P:=by exact fun h=>(Q9l)<|(Q0) h):Q→P:=h
def sf(h:Q→P:=by exact fun h=>ga<|bJ h):Q→P:=h
def Q0i(h:Q→P:=by exact fun h=>(QL)<|(Qk) h):Q→P:=h
def Q0m(h:Q→P:=by exact fun h=>(oH)<|(zT) h):Q→P:=h
def ux(h:Q→P:=by exact fun h=>(Q8)<|(Q0) h):Q→P:=h
def sx(h:Q→P:=by exact fun h=>(Q6)<|(Q0) h):Q→P:=h
def Q0p(h:Q→P:=by exact fun h=>(QL)<|(Q1) h):Q→P:=h
def Q9m(h:Q→P:=by exact fun h=>nN<|(Q9k) h):Q→P:=h
def QI(h:Q→P:=by exact fun h=>nM<|(Q9m) h):Q→P:=h
def Q8J(h:Q→P:=by exact fun h=>bW _ (.cons (d:=0) rfl (.cons (d:=18) rfl (.nil _)))<|bA (M:=R::F) (fun _ _ h=>h) h):Q→P:=h
def Ai(h:Q→P:=by exact fun h=>(Q0)<|(Qo) h):Q→P:=h
def Q2s(h:Q→P:=by exact fun h=>nG V.kK<|(qJ) h):Q→P:=h
def wT(h:Q→P:=by exact fun h=>(Q3)<|(Ql) h):Q→P:=h
def Q0D(h:Q→P:=by exact fun h=>(oO)<|(Q0) h):Q→P:=h
def By(h:Q→P:=by intro h;refine(lq) ?_;exact rN TT 2 rfl h):Q→P:=h
def Q9n(h:Q→P:=by exact fun h=>(Q5)<|(JD) h):Q→P:=h
def Q51(h:Q→P:=by exact fun h=>(Q9n)<|(Q1) h):Q→P:=h
def Q6z(h:Q→P:=by exact fun h=>oR (bC (cR rfl rfl) omg)<|rR TT 3 rfl h):Q→P:=h
def Q9o(h:Q→P:=by exact fun h=>qY<|bJ h):Q→P:=h
def MP(h:Q→P:=by exact fun h=>(Q9o)<|(QF) h):Q→P:=h
def Q0Q(h:Q→P:=by exact fun h=>(Qo)<|(Qk) h):Q→P:=h
def Q53(h:Q→P:=by exact fun h=>(QA)<|(Q6) h):Q→P:=h
def Q0R(h:Q→P:=by exact fun h=>(QL)<|(Qe) h):Q→P:=h
def Q0S(h:Q→P:=by exact fun h=>(QH)<|(QD) h):Q→P:=h
def Q0T(h:Q→P:=by exact fun h=>(Q3g)<|(Q3h) h):Q→P:=h
def I2(h:Q→P:=by exact fun h=>(nX)<|(QA) h):Q→P:=h
def Ox(h:Q→P:=by intro h;refine(Q5) ?_;exact oV (xI V.vz (own ay)) h):Q→P:=h
def Mq(h:Q→P:=by intro h;refine(Q5) ?_;exact oV (xI V.nL (own ay)) h):Q→P:=h
def Q9p(h:Q→P:=by exact fun h=>(eI)<|(lX) h):Q→P:=h
def Q9q(h:Q→P:=by exact fun h=>(Q9p)<|(eI) h):Q→P:=h
def Q9r(h:Q→P:=by exact fun h=>(Q9q)<|(lR) h):Q→P:=h
def Q1i(h:Q→P:=by exact fun h=>(Q9r)<|(eI) h):Q→P:=h
def Q15(h:Q→P:=by exact fun h=>(Q3)<|(Q07) h):Q→P:=h
def Q16(h:Q→P:=by exact fun h=>(pW)<|(ql) h):Q→P:=h
def WT(h:Q→P:=by exact fun h=>(Qu)<|(nX) h):Q→P:=h
def Q8K(h:Q→P:=by exact fun h=>nG V.tv<|nV (fun y hA L=>bZ (m+1) rfl V.j0 rfl rfl omg) h):Q→P:=h
def Q6A(h:Q→P:=by intro h;refine(Qg) ?_;exact oC (gV x) V.pg rfl .nil rfl h):Q→P:=h
def tu(h:Q→P:=by intro h;refine(Ei) ?_;exact ga h):Q→P:=h
def Y1(h:Q→P:=by intro h;refine(QQ) ?_;exact oV (cn (v:=.bool true) (OM Tryz.underlying204 rfl rfl) rfl) h):Q→P:=h
def Q1k(h:Q→P:=by exact fun h=>(QD)<|(Qm) h):Q→P:=h
def Q8M(h:Q→P:=by intro h;refine(Q1i) ?_;exact oR (iT (r:=32*((U5.g B 1)/32%2)) rfl rfl (aC.AN hw)) h):Q→P:=h
def ZP(h:Q→P:=by exact fun h=>(jV)<|(Qw) h):Q→P:=h
def Q9s(h:Q→P:=by exact fun h=>(Q51)<|(TL) h):Q→P:=h
def xm(h:Q→P:=by exact fun h=>(Q9s)<|(Q1) h):Q→P:=h
def Q8N(h:Q→P:=by exact fun h=>oR (xI V.iJ (by exact bK hR1 dz))<|oR (xL V.nH (by exact bK hR1 dz)) h):Q→P:=h
def Q8O(h:Q→P:=by exact fun h=>oR (xI V.iJ (by exact bK hR2 fX))<|oR (xL V.nH (by exact bK hR2 fX)) h):Q→P:=h
def Q8P(h:Q→P:=by intro h;refine(Ho) ?_;exact nV (fun y hA L=>cS V.u5 Tryz.underlying3 rfl (aa.o8 hKB)) h):Q→P:=h
def Zj(h:Q→P:=by intro h;refine(Q8) ?_;exact BK (L':=Pre++(ai b2 27 [I6 0]::F)) List.perm_middle.symm h):Q→P:=h
def Q8R(h:Q→P:=by intro h;refine(Qm) ?_;exact oV (cn (v:=.bool false) (aB V.s4 rfl dz rfl) (by rw[he])) h):Q→P:=h
def Q8S(h:Q→P:=by intro h;refine(Qk) ?_;exact oV (iT (r:=32*((U5.g B 1)/32%2)) rfl rfl (aC.FV hw)) h):Q→P:=h
def Q8T(h:Q→P:=by exact fun h=>oR (xI V.cy (by exact bK hR1 ay))<|oR (xL V.s3 (by exact bK hR1 ay)) h):Q→P:=h
def Q8U(h:Q→P:=by exact fun h=>oR (xI V.cy (by exact bK hR2 cX))<|oR (xL V.s3 (by exact bK hR2 cX)) h):Q→P:=h
def Q8V(h:Q→P:=by exact fun h=>oV (xI V.cy (by exact bK hRv fX))<|oV (xL V.s3 (by exact bK hRv fX)) h):Q→P:=h
def ZC(h:Q→P:=by exact fun h=>oV (xI V.bT (by exact bK hR2 cX))<|oV (xL V.s5 (by exact bK hR2 cX)) h):Q→P:=h
def ZE(h:Q→P:=by intro h;refine(Qt) ?_;exact oC (oM (aC.bN B) (aC.bN (B.drop 4))) V.zZ rfl .nil rfl h):Q→P:=h
def Q8Y(h:Q→P:=by intro h;refine(Ql) ?_;exact oC (mh (aC.bN B) (aC.bN (B.drop 4))) V.r4 rfl .nil rfl h):Q→P:=h
def ZB(h:Q→P:=by intro h;refine(Q99) ?_;exact jg rfl (cs:=[_,_,_,_,_,_,_,_,_,_,_,_,_]) rfl rfl h):Q→P:=h
def Q90(h:Q→P:=by exact fun h=>oV (xI V.cy (by exact bK hR ay))<|oV (xL V.s3 (by exact bK hR ay)) h):Q→P:=h
def Zq(h:Q→P:=by intro h;refine(Q0) ?_;exact oV (bU V.a145 rfl dz (vs:=[_,_,_,_,_,_]) rfl rfl) h):Q→P:=h
def CY(h:Q→P:=by intro h;refine(sf) ?_;exact Df rfl h):Q→P:=h
def Q92(h:Q→P:=by intro h;refine(Uy) ?_;exact oV (cS V.u3 Tryz.underlying76 rfl (aC.wrap32 hn4.1 hn4.2)) h):Q→P:=h
def uR(h:Q→P:=by exact fun h=>(MP)<|(Q8) h):Q→P:=h
def Q1y(h:Q→P:=by exact fun h=>(kH)<|(kH) h):Q→P:=h
def uN(h:Q→P:=by exact fun h=>(qA)<|(Q6) h):Q→P:=h
def Q1A(h:Q→P:=by exact fun h=>(Q0)<|(m7) h):Q→P:=h
def uE(h:Q→P:=by exact fun h=>(QK)<|(WK) h):Q→P:=h
def SF(h:Q→P:=by exact fun h=>(Qk)<|(nX) h):Q→P:=h
def Q1D(h:Q→P:=by exact fun h=>(QN)<|(Q53) h):Q→P:=h
def uz(h:Q→P:=by exact fun h=>(Ql)<|(Q6) h):Q→P:=h
def uI(h:Q→P:=by exact fun h=>(Qd)<|(uH) h):Q→P:=h
def Q93(h:Q→P:=by intro h;refine(QQ) ?_;exact aQ (JV p cap B R hR hl) V.acq rfl (an .nil) rfl h):Q→P:=h
def Q94(h:Q→P:=by intro h;refine(YZ) ?_;exact nV (fun y hA L=>bZ 2 rfl V.gX rfl rfl omg) h):Q→P:=h
def Q95(h:Q→P:=by intro h;refine(Q5) ?_;exact oV (bU V.iy rfl HY (vs:=[_,_,_,_,_]) rfl rfl) h):Q→P:=h
end Go.Sl
namespace Go.Sl
open Go.RowKit (Below)
abbrev Hp:=Nat→Option Obj
def Hp.le (a b:Hp):Prop:=∀n o,a n=some o→b n=some o
def Hp.nO (a b:Hp):Prop:=∀n,a n=none∨b n=none
def Hp.join (a b:Hp):Hp:=fun n=>match a n with|some o=>some o|none=>b n
def Hp.le_refl(a:Hp):a.le a:=fun _ _ h=>h
def Hp.le_trans{a b c:Hp}(h:a.le b)(k:b.le c):a.le c:=fun n o e=>k n o (h n o e)
def Hp.ny{a b:Hp}(h:a.nO b):b.nO a:=fun n=>(h n).symm
def Hp.kU{a a' b b':Hp}(h:a.nO b)(ha:a'.le a)(hb:b'.le b):a'.nO b':=fun n=>by
 rcases h n with h|h
 ·left
  cases e:a' n with
  |none=>rfl
  |some o=>rw[ha n o e] at h;cases h
 ·right
  cases e:b' n with
  |none=>rfl
  |some o=>rw[hb n o e] at h;cases h
def Hp.kL(a b:Hp):a.le (a.join b):=fun n o h=>by simp[Hp.join,h]
def Hp.kd{a b:Hp}(hd:a.nO b):b.le (a.join b):=fun n o h=>by
 rcases hd n with e|e
 ·simp[Hp.join,e,h]
 ·rw[e] at h;cases h
def Hp.join_le{a b c:Hp}(h:a.le c)(k:b.le c):(a.join b).le c:=fun n o e=>by
 unfold Hp.join at e
 split at e
 ·rename_i x hx;cases e;exact h n _ hx
 ·exact k n o e
def Hp.ss{a b c:Hp}(h:a.nO c)(k:b.nO c):(a.join b).nO c:=fun n=>by
 rcases h n with e|e
 ·rcases k n with e'|e'
  ·left;simp[Hp.join,e,e']
  ·exact .inr e'
 ·exact .inr e
abbrev ad:=World→Hp→Prop
def cY (w0:World):List ad→Hp→Prop
 |[],_=>True
 |p::l,h=>∃h1 h2,Hp.nO h1 h2∧Hp.le h1 h∧Hp.le h2 h∧p w0 h1∧cY w0 l h2
def sL{w0:World}:∀ {L:List ad} {h h':Hp},Hp.le h h'→cY w0 L h→cY w0 L h'
 |[],_,_,_,_=>trivial
 |_::_,_,_,hl,⟨h1,h2,d,l1,l2,p,r⟩=>⟨h1,h2,d,Hp.le_trans l1 hl,Hp.le_trans l2 hl,p,r⟩
def lu{w0:World}:∀ {L M:List ad} {h:Hp},cY w0 (L++M) h↔∃h1 h2,Hp.nO h1 h2∧Hp.le h1 h∧Hp.le h2 h∧cY w0 L h1∧cY w0 M h2
 |[],M,h=>⟨fun k=>⟨fun _=>none,h,fun _=>.inl rfl,fun _ _ e=>by simp at e,Hp.le_refl _,trivial,k⟩,fun⟨_,_,_,_,l,_,k⟩=>sL l k⟩
 |p::L,M,h=>by
  constructor
  ·rintro⟨h1,h2,d,l1,l2,hp,k⟩
   obtain⟨g1,g2,d',m1,m2,k1,k2⟩:=lu.1 k
   refine⟨h1.join g1,g2,?_,?_,Hp.le_trans m2 l2,?_,k2⟩
   ·exact Hp.ss (Hp.kU d (Hp.le_refl _) m2) d'
   ·exact Hp.join_le l1 (Hp.le_trans m1 l2)
   ·exact⟨h1,g1,Hp.kU d (Hp.le_refl _) m1,Hp.kL _ _,Hp.kd (Hp.kU d (Hp.le_refl _) m1),hp,k1⟩
  ·rintro⟨h1,h2,d,l1,l2,⟨g1,g2,d',m1,m2,hp,k1⟩,k2⟩
   refine⟨g1,g2.join h2,?_,Hp.le_trans m1 l1,?_,hp,?_⟩
   ·exact Hp.ny (Hp.ss (Hp.ny d') (Hp.ny (Hp.kU d m1 (Hp.le_refl _))))
   ·exact Hp.join_le (Hp.le_trans m2 l1) l2
   ·exact lu.2 ⟨g2,h2,Hp.kU d m2 (Hp.le_refl _),Hp.kL _ _,Hp.kd (Hp.kU d m2 (Hp.le_refl _)),k1,k2⟩
def Gj{w0:World}{L M:List ad}(hp:L.Perm M):∀ {h:Hp},cY w0 L h→cY w0 M h:=by
 induction hp with
 |nil=>exact fun k=>k
 |cons p _ ih=>exact fun⟨h1,h2,d,l1,l2,hp,k⟩=>⟨h1,h2,d,l1,l2,hp,ih k⟩
 |swap p q l=>
  rintro h ⟨h1,h2,d,l1,l2,hp,g1,g2,d',m1,m2,hq,k⟩
  refine⟨g1,h1.join g2,?_,Hp.le_trans m1 l2,?_,hq,h1,g2,?_,Hp.kL _ _,?_,hp,k⟩
  ·exact Hp.ny (Hp.ss (Hp.kU d (Hp.le_refl _) m1) (Hp.ny d'))
  ·exact Hp.join_le l1 (Hp.le_trans m2 l2)
  ·exact Hp.kU d (Hp.le_refl _) m2
  ·exact Hp.kd (Hp.kU d (Hp.le_refl _) m2)
 |trans _ _ ih1 ih2=>exact fun k=>ih2 (ih1 k)
structure Inv (w0:World) (L:List ad) (w:World):Prop where
 below:Below w0.heap.size w0 w
 heap:∃h:Hp,(∀b o,h b=some o→w0.heap.size≤b∧w.heap[b]?=some o)∧cY w0 L h
def Inv.perm{w0 w:World}{L M:List ad}(hi:Inv w0 L w)(hp:L.Perm M):Inv w0 M w:=
 ⟨hi.below,let⟨h,a,b⟩:=hi.heap;⟨h,a,Gj hp b⟩⟩
def Inv.tail{w0 w:World}{A:ad}{L:List ad}(hi:Inv w0 (A::L) w):Inv w0 L w:=
 ⟨hi.below,let⟨h,a,_,_,_,_,l2,_,k⟩:=hi.heap;⟨h,a,sL l2 k⟩⟩
def Inv.right{w0 w:World}{L M:List ad}(hi:Inv w0 (L++M) w):Inv w0 M w:=
 ⟨hi.below,let⟨h,a,k⟩:=hi.heap;let⟨_,_,_,_,l2,_,k2⟩:=lu.1 k;⟨h,a,sL l2 k2⟩⟩
def Inv.start(w:World):Inv w [] w:=⟨Below.refl _ _,⟨fun _=>none,⟨fun _ _ e=>(by simp at e),trivial⟩⟩⟩
def Inv.zr{w0 w:World}{A:ad}{L:List ad}{ι:Sort _}{K:ι→Prop}{B:ι→List ad}(hA:∀h,A w0 h→∃i,K i∧cY w0 (B i) h)(hi:Inv w0 (A::L) w):∃i,K i∧Inv w0 (B i++L) w:=by
 obtain⟨hb,h,a,h1,h2,d,l1,l2,p,k⟩:=hi
 obtain⟨i,c,s⟩:=hA h1 p
 exact⟨i,c,hb,h,a,lu.2 ⟨h1,h2,d,l1,l2,s,k⟩⟩
def Inv.cls{w0 w:World}{A:ad}{B L:List ad}(hA:∀h,cY w0 B h→A w0 h)(hi:Inv w0 (B++L) w):Inv w0 (A::L) w:=by
 obtain⟨hb,h,a,k⟩:=hi
 obtain⟨h1,h2,d,l1,l2,k1,k2⟩:=lu.1 k
 exact⟨hb,h,a,h1,h2,d,l1,l2,hA h1 k1,k2⟩
def Inv.imp{w0 w:World}{A B:ad}{L:List ad}(hA:∀h,A w0 h→B w0 h)(hi:Inv w0 (A::L) w):Inv w0 (B::L) w:=by
 obtain⟨hb,h,a,h1,h2,d,l1,l2,p,k⟩:=hi
 exact⟨hb,h,a,h1,h2,d,l1,l2,hA _ p,k⟩
def Mk (e:Bool) (n:Nat):Nat×Nat:=cond e (n,n+1) (0,0)
def ai (b:Nat) (T:TypeId) (cs:List Value):ad:=fun _ h=>∃e,h b=some (.cells cs.toArray T (Mk e cs.length))
def ai.mono{b:Nat}{T:TypeId}{cs:List Value}{w0:World}{g h:Hp}(l:Hp.le g h)(c:ai b T cs w0 g):ai b T cs w0 h:=let⟨e,p⟩:=c;⟨e,l _ _ p⟩
def Pr (p:Prop):ad:=fun _ _=>p
def tg (l:List ad):ad:=fun w0 h=>cY w0 l h
def Inv.Jc{w0 w:World}{l L:List ad}(hi:Inv w0 (tg l::L) w):Inv w0 (l++L) w:=
 let⟨_,_,k⟩:=Inv.zr (ι:=Unit) (K:=fun _=>True) (B:=fun _=>l) (fun h s=>⟨(),trivial,s⟩) hi;k
def Inv.star{w0 w:World}{l L:List ad}(hi:Inv w0 (l++L) w):Inv w0 (tg l::L) w:=Inv.cls (fun _ s=>s) hi
def Inv.T0{w0 w:World}{b:Nat}{T:TypeId}{cs:List Value}{L:List ad}(hi:Inv w0 (ai b T cs::L) w):w0.heap.size≤b:=
 let⟨_,_,a,_,_,_,l1,_,⟨_,p⟩,_⟩:=hi;(a _ _ (l1 _ _ p)).1
def Inv.te{w0 w:World}{b:Nat}{T:TypeId}{cs:List Value}{L:List ad}(hi:Inv w0 (ai b T cs::L) w):∃e,w.heap[b]?=some (.cells cs.toArray T (Mk e cs.length)):=
 let⟨_,_,a,_,_,_,l1,_,⟨e,p⟩,_⟩:=hi;⟨e,(a _ _ (l1 _ _ p)).2⟩
def Inv.jq{w0 w:World}{b:Nat}{T:TypeId}{cs:List Value}{L:List ad}(hi:Inv w0 (ai b T cs::L) w)(o:Nat):w.cell? ⟨b,o,none⟩=cs[o]?:=by
 obtain⟨e,h⟩:=hi.te
 simp[World.cell?,h]
def Inv.xi{w0 w:World}{b:Nat}{T:TypeId}{cs:List Value}{L:List ad}(hi:Inv w0 (ai b T cs::L) w)(o:Nat)(ho:o<cs.length):w.frozen? ⟨b,o,none⟩=false:=by
 obtain⟨e,h⟩:=hi.te
 cases e
 ·simp[World.frozen?,h,Mk]
 ·simp[World.frozen?,h,Mk];omega
def Inv.alloc{w0 w:World}{L:List ad}(hi:Inv w0 L w)(T:TypeId)(cs:List Value):Inv w0 (ai w.heap.size T cs::L) (w.alloc (.cells cs.toArray T)):=by
 obtain⟨hb,h,a,k⟩:=hi
 have hd:Hp.nO (fun b=>if b=w.heap.size then some (Obj.cells cs.toArray T (0,0)) else none) h:=fun n=>by
  by_cases e:n=w.heap.size
  ·right
   cases hn:h n with
   |none=>rfl
   |some o=>
    have:=(a n o hn).2
    rw[e] at this
    simp at this
  ·left;simp[e]
 refine⟨hb.alloc hb.size _,Hp.join _ h,?_,_,h,hd,Hp.kL _ _,Hp.kd hd,⟨false,by simp[Mk]⟩,k⟩
 intro b o e
 unfold Hp.join at e
 by_cases hbs:b=w.heap.size
 ·subst hbs
  simp at e
  subst e
  exact⟨hb.size,by show(w.heap.push _)[w.heap.size]?=_;simp⟩
 ·simp[hbs] at e
  obtain⟨g1,g2⟩:=a b o e
  refine⟨g1,?_⟩
  show(w.heap.push _)[b]?=_
  rw[Array.getElem?_push,if_neg hbs]
  exact g2
def Inv.write{w0 w w':World}{b:Nat}{T:TypeId}{cs cs':List Value}{L:List ad}(hi:Inv w0 (ai b T cs::L) w)
  (hos:w'.os=w.os) (ht:w'.tape=w.tape) (ho:w'.output=w.output) (hs:w.heap.size≤w'.heap.size)
  {e':Bool} (hblk:w'.heap[b]?=some (.cells cs'.toArray T (Mk e' cs'.length))) (hoth:∀k,k≠b→k<w.heap.size→w'.heap[k]?=w.heap[k]?):Inv w0 (ai b T cs'::L) w':=by
 have hge:=hi.T0
 obtain⟨hb,h,a,h1,h2,d,l1,l2,⟨_,p⟩,k⟩:=hi
 have hlt:∀j o,w.heap[j]?=some o→j<w.heap.size:=fun j o e=>by
  rcases Nat.lt_or_ge j w.heap.size with h|h
  ·exact h
  ·simp[Array.getElem?_eq_none h] at e
 have hd:Hp.nO (fun n=>if n=b then some (Obj.cells cs'.toArray T (Mk e' cs'.length)) else none) h2:=fun n=>by
  by_cases e:n=b
  ·right
   rcases d n with x|x
   ·rw[e,p] at x;cases x
   ·exact x
  ·left;simp[e]
 refine⟨hb.trans ⟨hos,ht,ho,hs,fun j hj=>?_⟩,Hp.join _ h2,?_,_,h2,hd,Hp.kL _ _,Hp.kd hd,⟨e',by simp⟩,k⟩
 ·have:=hb.size
  exact hoth j omg omg
 ·intro j o e
  unfold Hp.join at e
  by_cases hj:j=b
  ·subst hj
   simp at e
   subst e
   exact⟨hge,hblk⟩
  ·simp[hj] at e
   obtain⟨g1,g2⟩:=a j o (l2 j o e)
   exact⟨g1,by rw[hoth j hj (hlt j o g2)];exact g2⟩
def Inv.setCell{w0 w:World}{b:Nat}{T:TypeId}{cs:List Value}{L:List ad}(hi:Inv w0 (ai b T cs::L) w)(o:Nat)(v:Value):Inv w0 (ai b T (cs.set o v)::L) (w.setCell ⟨b,o,none⟩ v):=by
 obtain⟨e,hbl⟩:=hi.te
 refine hi.write (e':=e) rfl rfl rfl (by simp) ?_ ?_
 ·simp[World.setCell,Array.getElem?_modify,hbl]
 ·intro k hk _
  exact Below.heap_setCell _ _ _ _ hk
def Inv.drew{w0 w:World}{L:List ad}(hi:Inv w0 L w):Inv w0 L w.drew:=
 ⟨hi.below.drew,hi.heap⟩
abbrev Env:=List (Nat×Value)
def Env.get:Env→Nat→Option Value
 |[],_=>none
 |(k,v)::E,d=>cond (Nat.beq k d) (some v) (Env.get E d)
structure Ctx where
 P:Program
 w0:World
 n:Nat
 D:List Deferred
 X:List PanicEntry→List ad→Prop
structure gr (C:Ctx) (E:Env) (a:Act):Prop where
 defers:a.defers=C.D
 size:a.tmps.size=C.n
 get:∀d v,E.get d=some v→a.tmps[d]?=some v
def au (E:Env):Operand→Option Value
 |.tmp t=>E.get t
 |.const v=>some v
 |.global g=>some (.pointer (soz g))
 |.func f=>some (.func (.func f) #[] #[])
def gr.eval{C:Ctx}{E:Env}{a:Act}(h:gr C E a){x:Operand}{v:Value}(e:au E x=some v):a.eval x=v:=by
 cases x with
 |tmp t=>simp only[au] at e;simp[Act.eval,h.get t v e]
 |const u=>simpa[au,Act.eval] using e
 |global g=>simpa[au,Act.eval] using e
 |func f=>simpa[au,Act.eval] using e
def Env.jv(k:Nat)(v:Value)(E:Env)(d:Nat):Env.get ((k,v)::E) d=if k=d then some v else Env.get E d:=by
 simp only[Env.get]
 by_cases h:k=d
 ·subst h;simp
 ·have:Nat.beq k d=false:=by
   cases hb:Nat.beq k d with
   |false=>rfl
   |true=>exact absurd (Nat.eq_of_beq_eq_true hb) h
  simp[this,h]
def gr.put{C:Ctx}{E:Env}{a:Act}(h:gr C E a){d:Nat}(hd:d<C.n)(v:Value):gr C ((d,v)::E) (a.put (some d) v):=by
 refine⟨h.defers,by simp[Act.put,h.size],fun k u e=>?_⟩
 rw[Env.jv] at e
 simp only[Act.put,Array.getElem?_setIfInBounds]
 by_cases hk:d=k
 ·subst hk
  simp at e
  simp[h.size,hd,e]
 ·simp only[hk,if_false] at e ⊢
  exact h.get k u e
def Le (E' E:Env):Prop:=∀d v,E'.get d=some v→E.get d=some v
def gr.le{C:Ctx}{E E':Env}{a:Act}(h:gr C E a)(l:Le E' E):gr C E' a:=⟨h.defers,h.size,fun d v e=>h.get d v (l d v e)⟩
def Le.refl(E:Env):Le E E:=fun _ _ e=>e
def Le.nil(E:Env):Le [] E:=fun _ _ e=>by cases e
def Le.cons{E E':Env}{d:Nat}{v:Value}(h:E.get d=some v)(l:Le E' E):Le ((d,v)::E') E:=fun k u e=>by
 rw[Env.jv] at e
 by_cases hk:d=k
 ·subst hk;simp at e;rw[←e];exact h
 ·simp only[hk,if_false] at e;exact l k u e
abbrev QT:=Exit→Env→List ad→Prop
def Qh (C:Ctx) (Q:QT):Exit→Act→World→Prop:=fun e a w=>∃E L,gr C E a∧Inv C.w0 L w∧Q e E L
def Wp (C:Ctx) (c:Code) (Q:QT) (E:Env) (L:List ad):Prop:=∀a w,gr C E a→Inv C.w0 L w→c.wp C.P (Qh C Q) a w
def dr (C:Ctx) (ops:Array Oper) (l:List Oper) (Q:QT) (E:Env) (L:List ad):Prop:=∀a w,gr C E a→Inv C.w0 L w→wpList C.P ops (Qh C Q) l a w
def jB (k:Env→List ad→Prop) (Q:QT):QT:=fun e E L=>match e with|.normal=>k E L|e=>Q e E L
def ks (id:Nat) (Q:QT):QT:=fun e E L=>match e with|.exit i=>cond (Nat.beq i id) (Q .normal E L) (Q (.exit i) E L)|e=>Q e E L
section
variable {C:Ctx} {Q:QT} {E:Env} {L:List ad}
def Wp.mono{c:Code}{Q':QT}(h:Wp C c Q E L)(hq:∀e E L,Q e E L→Q' e E L):Wp C c Q' E L:=
 fun a w ha hi=>Code.wp_mono (fun e a w ⟨E,L,x,y,z⟩=>⟨E,L,x,y,hq e E L z⟩) (h a w ha hi)
def Wp.weaken{c:Code}{E':Env}{L':List ad}(h:Wp C c Q E' L')(l:Le E' E)(hp:L.Perm L'):Wp C c Q E L:=
 fun a w ha hi=>h a w (ha.le l) (hi.perm hp)
def bW{c:Code}(E':Env)(l:Le E' E)(h:Wp C c Q E' L):Wp C c Q E L:=h.weaken l (List.Perm.refl _)
def Uh{c:Code}{L':List ad}(hp:L.Perm L')(h:Wp C c Q E L'):Wp C c Q E L:=h.weaken (Le.refl _) hp
def EU{c:Code}{A:ad}{ι:Sort _}{K:ι→Prop}{B:ι→List ad}(hA:∀h,A C.w0 h→∃i,K i∧cY C.w0 (B i) h)
  (k:∀i,K i→Wp C c Q E (B i++L)):Wp C c Q E (A::L):=fun a w ha hi=>let⟨i,c,s⟩:=hi.zr hA;k i c a w ha s
def ka{x y:Code}(h:Wp C x (jB (fun E L=>Wp C y Q E L) Q) E L):Wp C (.seq x y) Q E L:=fun a w ha hi=>
 Go.wp_seq (Code.wp_mono (fun e a w ⟨E,L,ha,hi,q⟩=>by
  cases e with
  |normal=>exact q a w ha hi
  |exit _=>exact⟨E,L,ha,hi,q⟩
  |goto _=>exact⟨E,L,ha,hi,q⟩
  |ret=>exact⟨E,L,ha,hi,q⟩
  |panic _=>exact⟨E,L,ha,hi,q⟩
  |outgrown=>exact⟨E,L,ha,hi,q⟩) (h a w ha hi))
def bJ{k:Env→List ad→Prop}(h:k E L):jB k Q .normal E L:=h
def UB(h:Q .normal E L):Wp C .skip Q E L:=fun a w ha hi=>Go.wp_skip ⟨E,L,ha,hi,h⟩
def NK(h:Q .ret E L):Wp C .ret Q E L:=fun a w ha hi=>Go.wp_ret ⟨E,L,ha,hi,h⟩
def Tt{id:Nat}(h:Q (.exit id) E L):Wp C (.exit id) Q E L:=fun a w ha hi=>Go.wp_exit ⟨E,L,ha,hi,h⟩
def qN{id:Nat}{c:Code}(h:Wp C c (ks id Q) E L):Wp C (.block id c) Q E L:=fun a w ha hi=>
 Go.wp_block (Code.wp_mono (fun e a w ⟨E,L,ha,hi,q⟩=>by
  cases e with
  |exit i=>
   simp only[ks] at q
   simp only[Exit.inBlock]
   by_cases hid:i=id
   ·subst hid
    simp at q ⊢
    exact⟨E,L,ha,hi,q⟩
   ·have:Nat.beq i id=false:=by
     cases hb:Nat.beq i id with
     |false=>rfl
     |true=>exact absurd (Nat.eq_of_beq_eq_true hb) hid
    simp[this] at q
    simp only[hid,if_false]
    exact⟨E,L,ha,hi,q⟩
  |normal=>exact⟨E,L,ha,hi,q⟩
  |goto _=>exact⟨E,L,ha,hi,q⟩
  |ret=>exact⟨E,L,ha,hi,q⟩
  |panic _=>exact⟨E,L,ha,hi,q⟩
  |outgrown=>exact⟨E,L,ha,hi,q⟩) (h a w ha hi))
def wV{c:Operand}{x y:Code}{b:Bool}(hc:au E c=some (.bool b))(ht:b=true→Wp C x Q E L)(hf:b=false→Wp C y Q E L):Wp C (.cond c x y) Q E L:=
 fun a w ha hi=>Go.wp_cond_split (ha.eval hc) (fun e=>ht e a w ha hi) (fun e=>hf e a w ha hi)
def pV{c:Operand}{x y:Code}(hc:au E c=some (.bool true))(h:Wp C x Q E L):Wp C (.cond c x y) Q E L:=
 fun a w ha hi=>Go.wp_cond_true (ha.eval hc) (h a w ha hi)
def Df{c:Operand}{x y:Code}(hc:au E c=some (.bool false))(h:Wp C y Q E L):Wp C (.cond c x y) Q E L:=
 fun a w ha hi=>Go.wp_cond_false (ha.eval hc) (h a w ha hi)
def av{c:Operand}{x y:Code}{p:Prop}[Decidable p](hc:au E c=some (.bool (decide p)))(ht:p→Wp C x Q E L)(hf:¬p→Wp C y Q E L):Wp C (.cond c x y) Q E L:=
 wV hc (fun e=>ht (of_decide_eq_true e)) (fun e=>hf (of_decide_eq_false e))
def VD{c:Code}(R:Nat→Env→List ad→Prop)(m:Nat)(h0:R m E L)
  (h:∀m E L,R m E L→Wp C c (jB (fun E' L'=>∃m',m'<m∧R m' E' L') Q) E L):Wp C (.loop c) Q E L:=by
 intro a w ha hi b k cs
 have key:∀n a w,(∃E L,gr C E a∧Inv C.w0 L w∧R n E L)→
   ∃e a' w',Qh C Q e a' w'∧Arrives C.P (lone (b.at a (.code c::.inLoop c::k)) cs w) b k cs e a' w':=by
  intro n
  induction n using Nat.strongRecOn with
  |_ n ih=>
   rintro a w ⟨E,L,ha,hi,hR⟩
   obtain⟨e,a₁,w₁,hq,harr⟩:=h n E L hR a w ha hi b (.inLoop c::k) cs
   cases e with
   |normal=>
    obtain⟨E₁,L₁,ha₁,hi₁,m',hlt,hR₁⟩:=hq
    obtain⟨e₂,a₂,w₂,hq₂,harr₂⟩:=ih m' hlt a₁ w₁ ⟨E₁,L₁,ha₁,hi₁,hR₁⟩
    exact⟨e₂,a₂,w₂,hq₂,.of_steps (Steps.trans harr (.one step_inLoop)) harr₂⟩
   |exit id=>exact⟨_,a₁,w₁,hq,.pass (x:=.inLoop c) rfl (fun _ _=>.inl (by simp)) harr⟩
   |goto l=>exact⟨_,a₁,w₁,hq,.pass (x:=.inLoop c) rfl (fun _ _=>.inl (by simp)) harr⟩
   |ret=>exact⟨_,a₁,w₁,hq,.pass (x:=.inLoop c) rfl (fun _ _=>.inl (by simp)) harr⟩
   |panic ch=>exact⟨_,a₁,w₁,hq,.pass (x:=.inLoop c) rfl (fun _ _=>.inl (by simp)) harr⟩
   |outgrown=>exact⟨_,a₁,w₁,hq,.pass (x:=.inLoop c) rfl (fun _ _=>.inl (by simp)) harr⟩
 obtain⟨e,a',w',hq,harr⟩:=key m a w ⟨E,L,ha,hi,h0⟩
 exact⟨e,a',w',hq,.of_steps (.one step_loop) harr⟩
end
end Go.Sl
namespace Go.Sl
open Go.RowKit (Below)
def da (P:Program) (t:TypeId):Bool:=match P.underlying t with|some (.struct _)=>false|some (.array _ _)=>false|some _=>(match P.info? t with|some i=>Nat.beq i.size 1|none=>false)|none=>false
def gR (P:Program) (t:TypeId):Option Nat:=match P.underlying t with|some (.struct _)=>(P.info? t).map (·.size)|some (.array _ _)=>(P.info? t).map (·.size)|_=>none
def cW (P:Program) (t:TypeId):Option (List Value):=match P.info? t with|some i=>(match i.zero with|some z=>cond (Nat.beq z.cells.size i.size) (some z.cells.toList) none|none=>none)|none=>none
def bo (P:Program) (s f:Nat):Option Nat:=match P.underlying s with
 |some (.struct fs)=>(match fs[f]? with|some fd=>(match P.info? fd.type with|some i=>cond (Nat.beq i.size 0) none (some fd.offset)|none=>none)|none=>none)
 |_=>none
def sliceB (P:Program) (t:TypeId):Option (TypeId×Nat×Nat):=match P.underlying t with
 |some (.slice e)=>(match P.info? e with|some i=>some (e,i.size,i.bytes)|none=>none)
 |_=>none
def jP (P:Program) (t:TypeId):Option (Nat×TypeId×Nat):=match P.underlying t with
 |some (.array n e)=>(match P.info? e with|some i=>some (n,e,i.size)|none=>none)
 |_=>none
def iY (P:Program) (t:TypeId):Bool:=(P.underlying t).isSome
def aeO (P:Program) (t:TypeId) (k:IntKind):Prop:=P.underlying t=some (.int k)
def az (P:Program) (f:FuncId):Bool:=match P.funcs[f]? with|some fn=>fn.body.isSome&& !(fn.name== "runtime.NumGoroutine")|none=>false
def uU{P:Program}{t:TypeId}(h:da P t=true)(w:World):(isAgg t).run P w=.ok false w:=by
 unfold da at h
 unfold isAgg
 split at h<;>simp_all [run_underlying]
def run_sizeOf{P:Program}{t:TypeId}{i:TypeInfo}(h:P.info? t=some i)(w:World):(sizeOf t).run P w=.ok i.size w:=by
 simp[sizeOf,typeInfo,h]
def Cx{P:Program}{t:TypeId}(h:da P t=true):∃i,P.info? t=some i∧i.size=1:=by
 unfold da at h
 split at h<;>try simp at h
 split at h
 ·rename_i i hi;exact⟨i,hi,Nat.eq_of_beq_eq_true h⟩
 ·simp at h
def mS{P:Program}{t n:Nat}(h:gR P t=some n)(w:World):(isAgg t).run P w=.ok true w∧(sizeOf t).run P w=.ok n w:=by
 unfold gR at h
 unfold isAgg
 split at h<;>try simp at h
 all_goals
  obtain⟨i,hi,rfl⟩:=h
  exact⟨by simp_all [run_underlying],run_sizeOf hi w⟩
def kJ{P:Program}{t:Nat}{zs:List Value}(h:cW P t=some zs):∃i z,P.info? t=some i∧i.zero=some z∧z.cells=zs.toArray∧i.size=zs.length:=by
 unfold cW at h
 split at h<;>try simp at h
 rename_i i hi
 split at h<;>try simp at h
 rename_i z hz
 by_cases hs:Nat.beq z.cells.size i.size=true
 ·simp[hs] at h
  subst h
  exact⟨i,z,hi,hz,by simp,by simpa using(Nat.eq_of_beq_eq_true hs).symm⟩
 ·simp[hs] at h
def FC{P:Program}{s f o:Nat}(h:bo P s f=some o):∃fs fd i,P.underlying s=some (.struct fs)∧fs[f]?=some fd∧P.info? fd.type=some i∧i.size≠0∧fd.offset=o:=by
 unfold bo at h
 split at h<;>try simp at h
 rename_i fs hfs
 split at h<;>try simp at h
 rename_i fd hfd
 split at h<;>try simp at h
 rename_i i hi
 by_cases hz:Nat.beq i.size 0=true
 ·simp[hz] at h
 ·simp[hz] at h
  refine⟨fs,fd,i,hfs,hfd,hi,?_,h⟩
  intro e
  rw[e] at hz
  exact hz rfl
def j8{P:Program}{t e sz cJ:Nat}(h:sliceB P t=some (e,sz,cJ)):P.underlying t=some (.slice e)∧∃i,P.info? e=some i∧i.size=sz∧i.bytes=cJ:=by
 unfold sliceB at h
 split at h<;>try simp at h
 rename_i e' he
 split at h<;>try simp at h
 rename_i i hi
 obtain⟨rfl,rfl,rfl⟩:=h
 exact⟨he,i,hi,rfl,rfl⟩
def rz{P:Program}{t n e sz:Nat}(h:jP P t=some (n,e,sz)):P.underlying t=some (.array n e)∧∃i,P.info? e=some i∧i.size=sz:=by
 unfold jP at h
 split at h<;>try simp at h
 rename_i n' e' he
 split at h<;>try simp at h
 rename_i i hi
 obtain⟨rfl,rfl,rfl⟩:=h
 exact⟨he,i,hi,rfl⟩
def fY{a b:Nat}(h:Nat.blt a b=true):a<b:=Nat.le_of_ble_eq_true h
def Addr.gl(b o n:Nat):(⟨b,o,none⟩:Addr).add n=⟨b,o+n,none⟩:=by
 unfold Addr.add
 split
 ·rename_i h;simp[h]
 ·rfl
def gI{n:Int}(h1: -9223372036854775808≤n)(h2:n≤9223372036854775807):IntKind.i64.wrap n=n:=by rw[IntKind.wrap_i64];omega
def so{m n:Int}(h1:0≤m)(h2:0<n)(h3:m≤9223372036854775807):IntKind.i64.wrap (m.tdiv n)=m/n:=by
 rw[Int.tdiv_eq_ediv_of_nonneg h1]
 have h4:=Int.ediv_le_self n h1
 have h5:=Int.ediv_nonneg h1 (Int.le_of_lt h2)
 exact gI omg omg
def rA{m n:Int}(h1:0≤m):m.tmod n=m%n:=Int.tmod_eq_emod_of_nonneg h1
inductive ij:List ad→ad→List ad→Prop
 |head {A:ad} {L:List ad}:ij (A::L) A L
 |tail {A B:ad} {L F:List ad}:ij L A F→ij (B::L) A (B::F)
def ij.perm{L F:List ad}{A:ad}(h:ij L A F):L.Perm (A::F):=by
 induction h with
 |head=>exact List.Perm.refl _
 |tail _ ih=>exact(List.Perm.cons _ ih).trans (List.Perm.swap _ _ _)
inductive jU:List ad→ad→ad→List ad→Prop
 |head {A A':ad} {L:List ad}:jU (A::L) A A' (A'::L)
 |tail {A A' B:ad} {L F:List ad}:jU L A A' F→jU (B::L) A A' (B::F)
def jU.perm{L L':List ad}{A A':ad}(h:jU L A A' L'):∃F,L.Perm (A::F)∧(A'::F).Perm L':=by
 induction h with
 |head=>exact⟨_,List.Perm.refl _,List.Perm.refl _⟩
 | @tail A A' B L F _ ih=>
  obtain⟨G,h1,h2⟩:=ih
  exact⟨B::G,(List.Perm.cons _ h1).trans (List.Perm.swap _ _ _),(List.Perm.swap _ _ _).trans (List.Perm.cons _ h2)⟩
def Inv.mem{w0 w:World}{L:List ad}{A:ad}(hi:Inv w0 L w)(hm:A∈L):∃F,Inv w0 (A::F) w:=by
 obtain⟨X,Y,rfl⟩:=List.append_of_mem hm
 exact⟨X++Y,hi.perm List.perm_middle⟩
section
variable {C:Ctx} {Q:QT} {E:Env} {L L':List ad} {ops:Array Oper} {rest:List Oper} {d:Nat} {ty:TypeId} {pos:String} {aft:Array Edge} {op:Op} {v:Value}
def eS{id:Nat}{l:List Oper}(h:dr C l.toArray l Q E L):Wp C (.region id l.toArray false) Q E L:=
 fun a w ha hi=>wp_region_lit (h a w ha hi)
def ga(h:Q .normal E L):dr C ops [] Q E L:=fun a w ha hi=>wpList_nil ⟨E,L,ha,hi,h⟩
def BK(hp:L.Perm L')(h:dr C ops rest Q E L'):dr C ops rest Q E L:=fun a w ha hi=>h a w ha (hi.perm hp)
def Oo{A:ad}{ι:Sort _}{K:ι→Prop}{B:ι→List ad}(hA:∀h,A C.w0 h→∃i,K i∧cY C.w0 (B i) h)
  (k:∀i,K i→dr C ops rest Q E (B i++L)):dr C ops rest Q E (A::L):=fun a w ha hi=>let⟨i,c,s⟩:=hi.zr hA;k i c a w ha s
def Oh:Op→Value→Bool
 |.move _,_=>true
 |.assign _,_=>true
 |.pick _ _ _,_=>true
 |.nilCheck _,_=>true
 |.load _ _,_=>true
 |.binOp _ _ _ _ _,.bool _=>true
 |.binOp _ _ _ _ _,.int _ _=>true
 |.unOp _ _ _,_=>true
 |.convert _ _ _,.int _ _=>true
 |.fieldAddr _ _ _,_=>true
 |.field _ _ _,_=>true
 |.indexAddr _ _ _,_=>true
 |.index _ _ _,_=>true
 |.extract _ _,_=>true
 |.slice _ _ _ _ _,.slice _ _ _=>true
 |.build _ _,_=>true
 |.call ⟨.builtin .len,_,_⟩,.int _ _=>true
 |.call ⟨.builtin .cap,_,_⟩,.int _ _=>true
 |.call ⟨.builtin .min,_,_⟩,.int _ _=>true
 |.call ⟨.builtin .max,_,_⟩,.int _ _=>true
 |_,_=>false
def cx (C:Ctx) (op:Op) (ty:TypeId) (E:Env) (L:List ad) (v:Value) (L':List ad):Prop:=
 ∀(d:Option Nat) (pos:String) (aft:Array Edge) (g:Option (Nat×Bool)) a w,gr C E a→Inv C.w0 L w→∃w',((execOp a.eval ⟨d,op,ty,pos,aft,g⟩).run C.P w=.ok (.value v) w'∨(execOp a.eval ⟨d,op,ty,pos,aft,g⟩).run C.P w=.ok .skip w'∧v=undef)∧Inv C.w0 L' w'∧(Oh op v=true→(execOp a.eval ⟨d,op,ty,pos,aft,g⟩).run C.P w=.ok (.value v) w)
def lk (C:Ctx) (op:Op) (ty:TypeId) (E:Env) (L:List ad) (R:Value→List ad→Prop):Prop:=
 ∀(d:Option Nat) (pos:String) (aft:Array Edge) (g:Option (Nat×Bool)) a w (K:Act→World→Prop) (Q:Exit→Act→World→Prop),gr C E a→Inv C.w0 L w→
  (∀v L' w',R v L'→Inv C.w0 L' w'→K (a.put d v) w')→(⟨d,op,ty,pos,aft,g⟩:Oper).wp C.P a w K Q
def cx.x(h:cx C op ty E L v L'):lk C op ty E L (fun v' M=>v'=v∧M=L'):=by
 intro d pos aft g a w K Qx ha hi hK
 obtain⟨w',hr,hi',_⟩:=h d pos aft g a w ha hi
 unfold Oper.wp
 rcases hr with hr|⟨hr,e⟩
 ·rw[hr];exact hK v L' w' ⟨rfl,rfl⟩ hi'
 ·rw[hr];subst e;exact hK undef L' w' ⟨rfl,rfl⟩ hi'
def vY(h:cx C op ty E L v L')(hd:Nat.blt d C.n=true)(k:dr C ops rest Q ((d,v)::E) L'):dr C ops (⟨some d,op,ty,pos,aft,none⟩::rest) Q E L:=by
 intro a w ha hi
 refine wpList_plain rfl (fun K hK=>?_)
 exact h.x _ _ _ _ a w K _ ha hi (fun v' M w' ⟨e1,e2⟩ hi'=>by subst e1;subst e2;exact hK _ _ (k _ _ (ha.put (fY hd) _) hi'))
def cC(h:cx C op ty E L v L')(k:dr C ops rest Q E L'):dr C ops (⟨none,op,ty,pos,aft,none⟩::rest) Q E L:=by
 intro a w ha hi
 refine wpList_plain rfl (fun K hK=>?_)
 exact h.x _ _ _ _ a w K _ ha hi (fun v' M w' ⟨e1,e2⟩ hi'=>by subst e1;subst e2;exact hK _ _ (k _ _ ha hi'))
def qV{R:Value→List ad→Prop}(h:lk C op ty E L R)(hd:Nat.blt d C.n=true)(k:∀v L',R v L'→dr C ops rest Q ((d,v)::E) L'):dr C ops (⟨some d,op,ty,pos,aft,none⟩::rest) Q E L:=by
 intro a w ha hi
 refine wpList_plain rfl (fun K hK=>?_)
 exact h _ _ _ _ a w K _ ha hi (fun v M w' hR hi'=>hK _ _ (k v M hR _ _ (ha.put (fY hd) _) hi'))
def kf (ops:Array Oper) (E:Env) (j:Nat):Option Bool:=
 match ops[j]? with
 |some o=>(match o.dst with
  |some t=>(match E.get t with|some (.bool b)=>some b|_=>none)
  |none=>none)
 |none=>none
def kX{a:Act}{j:Nat}{b want:Bool}{o:Oper}(ha:gr C E a)(h:kf ops E j=some b)(hg:o.guard=some (j,want)):Region.wanted o (yielded ops a.tmps)=(b==want):=by
 unfold kf at h
 split at h<;>try simp at h
 rename_i oj hj
 split at h<;>try simp at h
 rename_i t ht
 split at h<;>try simp at h
 rename_i b' hb
 subst h
 have:=ha.get t _ hb
 simp[Region.wanted,hg,yielded,hj,ht,this]
def bB{dst:Option Nat}{j:Nat}{want:Bool}(hg:kf ops E j=some want)(h:dr C ops (⟨dst,op,ty,pos,aft,none⟩::rest) Q E L):dr C ops (⟨dst,op,ty,pos,aft,some (j,want)⟩::rest) Q E L:=by
 intro a w ha hi
 have h1:=h a w ha hi
 have hw:=kX (o:=⟨dst,op,ty,pos,aft,some (j,want)⟩) ha hg rfl
 unfold wpList at h1 ⊢
 rw[if_pos (by simp[Region.wanted])] at h1
 rw[if_pos (by rw[hw];simp)]
 exact h1
def AH{j:Nat}{want b:Bool}(hg:kf ops E j=some b)(hb:(b==want)=false)(hd:Nat.blt d C.n=true)(h:dr C ops rest Q ((d,undef)::E) L):dr C ops (⟨some d,op,ty,pos,aft,some (j,want)⟩::rest) Q E L:=by
 intro a w ha hi
 have hw:=kX (o:=⟨some d,op,ty,pos,aft,some (j,want)⟩) ha hg rfl
 unfold wpList
 rw[if_neg (by rw[hw,hb];simp)]
 exact h _ _ (ha.put (fY hd) _) hi
def BQ{b:Bool}(t:Nat)(ht:E.get t=some (.bool b))(hT:b=true→dr C ops rest Q ((t,.bool true)::E) L)(hF:b=false→dr C ops rest Q ((t,.bool false)::E) L):dr C ops rest Q E L:=by
 have key:∀c:Bool,b=c→Le ((t,.bool c)::E) E:=fun c e=>by subst e;exact Le.cons ht (Le.refl _)
 intro a w ha hi
 cases b with
 |true=>exact hT rfl a w (ha.le (key _ rfl)) hi
 |false=>exact hF rfl a w (ha.le (key _ rfl)) hi
def ev{p:Prop}[Decidable p](t:Nat)(ht:E.get t=some (.bool (decide p)))(hT:p→dr C ops rest Q ((t,.bool true)::E) L)(hF:¬p→dr C ops rest Q ((t,.bool false)::E) L):dr C ops rest Q E L:=
 BQ t ht (fun e=>hT (of_decide_eq_true e)) (fun e=>hF (of_decide_eq_false e))
def dM(hr:∀(d:Option Nat) (pos:String) (aft:Array Edge) (g:Option (Nat×Bool)) a w,gr C E a→(execOp a.eval ⟨d,op,ty,pos,aft,g⟩).run C.P w=.ok (.value v) w):cx C op ty E L v L:=
 fun d pos aft g a w ha hi=>⟨w,.inl (hr d pos aft g a w ha),hi,fun _=>hr d pos aft g a w ha⟩
def jh{x:Operand}(h:au E x=some v):cx C (.move x) ty E L v L:=dM fun d pos aft g a w ha=>by simp[execOp,ha.eval h]
def jZ{x:Operand}(h:au E x=some v):cx C (.assign x) ty E L v L:=dM fun d pos aft g a w ha=>by simp[execOp,ha.eval h]
def ow{c x y:Operand}(hc:au E c=some (.bool true))(h:au E x=some v):cx C (.pick c x y) ty E L v L:=dM fun d pos aft g a w ha=>by simp[execOp,ha.eval h,ha.eval hc,asBool]
def pR{c x y:Operand}(hc:au E c=some (.bool false))(h:au E y=some v):cx C (.pick c x y) ty E L v L:=dM fun d pos aft g a w ha=>by simp[execOp,ha.eval h,ha.eval hc,asBool]
def F3{x:Operand}{p:Addr}(h:au E x=some (.pointer (some p))):cx C (.nilCheck x) ty E L (.pointer (some p)) L:=dM fun d pos aft g a w ha=>by simp[execOp,ha.eval h]
def n8{x:Operand}{t:TypeId}{b:Bool}(h:au E x=some (.bool b)):cx C (.unOp .not t x) ty E L (.bool (!b)) L:=dM fun d pos aft g a w ha=>by simp[execOp,ha.eval h,Op.unary]
def A8{x:Operand}{t:TypeId}{p:Prop}[Decidable p](h:au E x=some (.bool (decide p))):cx C (.unOp .not t x) ty E L (.bool (decide (¬p))) L:=dM fun d pos aft g a w ha=>by simp[execOp,ha.eval h,Op.unary]
def fz{x:Operand}{vs:Array Value}{i:Nat}(h:au E x=some (.tuple vs))(hv:vs[i]?=some v):cx C (.extract x i) ty E L v L:=dM fun d pos aft g a w ha=>by simp[execOp,ha.eval h,Instr.extract,hv]
section ints
variable {x y:Operand} {t t':TypeId} {k:IntKind} {m n r:Int}
def kl{o:BinOp}{t':TypeId}(d:Option Nat)(pos:String)(aft:Array Edge)(g:Option (Nat×Bool)){a:Act}{w:World}{u1 u2:Value}(hx:a.eval x=u1)(hy:a.eval y=u2)(hg:(eqGuard o t x y u1 u2).run C.P w=.ok () w):
  (execOp a.eval ⟨d,.binOp o t x y t',ty,pos,aft,g⟩).run C.P w=((binOp o t u1 u2).run C.P w).andThen fun v w=>.ok (.value v) w:=by
 simp[execOp,hx,hy,hg]
def Cz{o:BinOp}(w:World):(eqGuard o t x y (.int k m) (.int k n)).run C.P w=.ok () w:=by
 unfold eqGuard
 cases o<;>simp
def kr{o:BinOp}(hx:au E x=some (.int k m))(hy:au E y=some (.int k n))(hr:∀w,(binOp o t (.int k m) (.int k n)).run C.P w=.ok v w):cx C (.binOp o t x y t') ty E L v L:=
 dM fun d pos aft g a w ha=>by rw[kl d pos aft g (ha.eval hx) (ha.eval hy) (Cz w),hr];rfl
def dw(hx:au E x=some (.int k m))(hy:au E y=some (.int k n))(e:k.wrap (m+n)=r):cx C (.binOp .add t x y t') ty E L (.int k r) L:=kr hx hy fun w=>by simp[binOp,Op.intArith,e]
def k5(hx:au E x=some (.int k m))(hy:au E y=some (.int k n))(e:k.wrap (m-n)=r):cx C (.binOp .sub t x y t') ty E L (.int k r) L:=kr hx hy fun w=>by simp[binOp,Op.intArith,e]
def fR(hx:au E x=some (.int k m))(hy:au E y=some (.int k n))(e:k.wrap (m*n)=r):cx C (.binOp .mul t x y t') ty E L (.int k r) L:=kr hx hy fun w=>by simp[binOp,Op.intArith,e]
def kW(hx:au E x=some (.int k m))(hy:au E y=some (.int k n))(h0:n≠0)(e:k.wrap (m.tdiv n)=r):cx C (.binOp .quo t x y t') ty E L (.int k r) L:=kr hx hy fun w=>by simp[binOp,Op.intDiv,h0,e]
def n7(hx:au E x=some (.int k m))(hy:au E y=some (.int k n))(h0:n≠0)(e:m.tmod n=r):cx C (.binOp .rem t x y t') ty E L (.int k r) L:=kr hx hy fun w=>by simp[binOp,Op.intDiv,h0,e]
def iT(hx:au E x=some (.int k m))(hy:au E y=some (.int k n))(e:k.wrap ((BitVec.ofInt k.bits m&&&BitVec.ofInt k.bits n).toNat:Int)=r):cx C (.binOp .and t x y t') ty E L (.int k r) L:=kr hx hy fun w=>by rw[←e];simp[binOp,Op.intBits]
def kq(hx:au E x=some (.int k m))(hy:au E y=some (.int k n))(e:k.wrap ((BitVec.ofInt k.bits m|||BitVec.ofInt k.bits n).toNat:Int)=r):cx C (.binOp .or t x y t') ty E L (.int k r) L:=kr hx hy fun w=>by rw[←e];simp[binOp,Op.intBits]
def tY(hx:au E x=some (.int k m))(hy:au E y=some (.int k n))(e:k.wrap ((BitVec.ofInt k.bits m^^^BitVec.ofInt k.bits n).toNat:Int)=r):cx C (.binOp .xor t x y t') ty E L (.int k r) L:=kr hx hy fun w=>by rw[←e];simp[binOp,Op.intBits]
def fk{k':IntKind}(hx:au E x=some (.int k m))(hy:au E y=some (.int k' n))(h0:0≤n)(e:k.wrap (m*2^(min n.toNat k.bits))=r):cx C (.binOp .shl t x y t') ty E L (.int k r) L:=
 dM fun d pos aft g a w ha=>by
  rw[kl d pos aft g (ha.eval hx) (ha.eval hy) (by simp[eqGuard])]
  simp[binOp,Op.shift,Int.not_lt.2 h0,←e]
def eF{k':IntKind}(hx:au E x=some (.int k m))(hy:au E y=some (.int k' n))(h0:0≤n)(e:m.fdiv (2^(min n.toNat k.bits))=r):cx C (.binOp .shr t x y t') ty E L (.int k r) L:=
 dM fun d pos aft g a w ha=>by
  rw[kl d pos aft g (ha.eval hx) (ha.eval hy) (by simp[eqGuard])]
  simp[binOp,Op.shift,Int.not_lt.2 h0,←e]
def dD(hx:au E x=some (.int k m))(hy:au E y=some (.int k n)):cx C (.binOp .lss t x y t') ty E L (.bool (decide (m<n))) L:=kr hx hy fun w=>by simp[binOp,Op.intCmp]
def il(hx:au E x=some (.int k m))(hy:au E y=some (.int k n)):cx C (.binOp .leq t x y t') ty E L (.bool (decide (m≤n))) L:=kr hx hy fun w=>by simp[binOp,Op.intCmp]
def cR(hx:au E x=some (.int k m))(hy:au E y=some (.int k n)):cx C (.binOp .gtr t x y t') ty E L (.bool (decide (n<m))) L:=kr hx hy fun w=>by simp[binOp,Op.intCmp]
def rF(hx:au E x=some (.int k m))(hy:au E y=some (.int k n)):cx C (.binOp .geq t x y t') ty E L (.bool (decide (n≤m))) L:=kr hx hy fun w=>by simp[binOp,Op.intCmp]
def bG(hx:au E x=some (.int k m))(hy:au E y=some (.int k n)):cx C (.binOp .eql t x y t') ty E L (.bool (decide (m=n))) L:=kr hx hy fun w=>by
 simp[binOp,Op.intCmp];rw[Bool.eq_iff_iff];simp
def bO(hx:au E x=some (.int k m))(hy:au E y=some (.int k n)):cx C (.binOp .neq t x y t') ty E L (.bool (decide (m≠n))) L:=kr hx hy fun w=>by
 simp[binOp,Op.intCmp];rw[Bool.eq_iff_iff];simp
def cS{src dst:TypeId}{k':IntKind}(hs:iY C.P src=true)(hd:C.P.underlying dst=some (.int k'))(hx:au E x=some (.int k m))(e:k'.wrap m=r):cx C (.convert src dst x) ty E L (.int k' r) L:=
 dM fun d pos aft g a w ha=>by
  simp only[execOp,ha.eval hx]
  have:=run_convert_int (P:=C.P) (w:=w) src dst k m
  unfold iY at hs
  obtain⟨ds,hds⟩:=Option.isSome_iff_exists.1 hs
  simp[convert,run_underlying hds,run_underlying hd,Conv.intToInt,e]
end ints
def sg{t e:TypeId}{p:Option Addr}(ht:C.P.underlying t=some (.pointer e))(d:Nat)(w:World):(Op.equalIn (d+1) t (.pointer p) (.pointer none)).run C.P w=.ok p.isNone w:=by
 cases p<;>simp[Op.equalIn,run_underlying ht]
def yj{x y:Operand}{t t' e:TypeId}{p:Option Addr}(ht:C.P.underlying t=some (.pointer e))(hx:au E x=some (.pointer p))(hy:au E y=some (.pointer none)):cx C (.binOp .eql t x y t') ty E L (.bool p.isNone) L:=
 dM fun d pos aft g a w ha=>by
  rw[kl d pos aft g (ha.eval hx) (ha.eval hy) (by simp[eqGuard])]
  have h:=sg ht (p:=p) 9999 w
  simp only[binOp,Op.equal,Op.maxDepth,Sem.run_bind,h,Result.andThen_ok,Sem.run_pure]
def OM{x y:Operand}{t t' e:TypeId}{p:Option Addr}(ht:C.P.underlying t=some (.pointer e))(hx:au E x=some (.pointer p))(hy:au E y=some (.pointer none)):cx C (.binOp .neq t x y t') ty E L (.bool (!p.isNone)) L:=
 dM fun d pos aft g a w ha=>by
  rw[kl d pos aft g (ha.eval hx) (ha.eval hy) (by simp[eqGuard])]
  have h:=sg ht (p:=p) 9999 w
  simp only[binOp,Op.equal,Op.maxDepth,Sem.run_bind,h,Result.andThen_ok,Sem.run_pure]
def bP{x:Operand}{s f o b p:Nat}(ht:bo C.P s f=some o)(h:au E x=some (.pointer (some ⟨b,p,none⟩))):cx C (.fieldAddr s x f) ty E L (.pointer (some ⟨b,p+o,none⟩)) L:=
 dM fun d pos aft g a w ha=>by
  obtain⟨fs,fd,i,h1,h2,h3,h4,rfl⟩:=FC ht
  simp[execOp,ha.eval h,Instr.fieldAt,run_underlying h1,h2,Instr.sureAddr,fieldPlace,run_sizeOf h3,h4,Addr.gl]
def RD{x ix:Operand}{t e sz cJ b p len cap:Nat}{k:IntKind}{i:Int}(j:Nat)(hj:i=(j:Int))(ht:sliceB C.P t=some (e,sz,cJ))(h:au E x=some (.slice (some ⟨b,p,none⟩) len cap))(hi:au E ix=some (.int k i))(hlt:j<len):cx C (.indexAddr t x ix) ty E L (.pointer (some ⟨b,p+j*sz,none⟩)) L:=
 dM fun d pos aft g a w ha=>by
  obtain⟨h1,i',h2,h3,h4⟩:=j8 ht
  subst hj
  have:(j:Int)<(len:Int):=omg
  simp[execOp,ha.eval h,ha.eval hi,Instr.indexAt,asIntOf,run_underlying h1,run_sizeOf h2,h3,hlt,Addr.gl]
def bZ{x ix:Operand}{t e sz n b p:Nat}{k:IntKind}{i:Int}(j:Nat)(hj:i=(j:Int))(ht:jP C.P t=some (n,e,sz))(h:au E x=some (.pointer (some ⟨b,p,none⟩)))(hi:au E ix=some (.int k i))(hlt:j<n):cx C (.indexAddr t x ix) ty E L (.pointer (some ⟨b,p+j*sz,none⟩)) L:=
 dM fun d pos aft g a w ha=>by
  obtain⟨h1,i',h2,h3⟩:=rz ht
  subst hj
  simp[execOp,ha.eval h,ha.eval hi,Instr.indexAt,asIntOf,run_underlying h1,run_sizeOf h2,h3,hlt,Addr.gl,Instr.sureAddr]
def yI{t:TypeId}{p:Addr}{w:World}(hs:da C.P t=true)(h:w.cell? p=some v):(loadVar t p).run C.P w=.ok v w:=by
 simp[loadVar,uU hs,h]
def CC{x:Operand}{t:TypeId}{p:Addr}(hs:da C.P t=true)(hx:au E x=some (.pointer (some p)))(hw:∀w,Inv C.w0 L w→w.cell? p=some v):cx C (.load t x) ty E L v L:=
 fun d pos aft g a w ha hi=>⟨w,.inl (by simp[execOp,ha.eval hx,Instr.loadAt,Instr.sureAddr,yI hs (hw w hi)]),hi,fun _=>by simp[execOp,ha.eval hx,Instr.loadAt,Instr.sureAddr,yI hs (hw w hi)]⟩
def aB{x:Operand}{t b o T:Nat}{cs:List Value}(hs:da C.P t=true)(hx:au E x=some (.pointer (some ⟨b,o,none⟩)))(hm:ai b T cs∈L)(hv:cs[o]?=some v):cx C (.load t x) ty E L v L:=
 CC hs hx fun w hi=>by obtain⟨F,hF⟩:=hi.mem hm;rw[hF.jq,hv]
def wy{x:Operand}{t n b o:Nat}{vs:List Value}(hs:gR C.P t=some n)(hx:au E x=some (.pointer (some ⟨b,o,none⟩)))(hn:vs.length=n)(hw:∀w,Inv C.w0 L w→∀j v,vs[j]?=some v→w.cell? ⟨b,o+j,none⟩=some v):cx C (.load t x) ty E L (.agg vs.toArray) L:=
 fun d pos aft g a w ha hi=>by
  have hr:(execOp a.eval ⟨d,.load t x,ty,pos,aft,g⟩).run C.P w=.ok (.value (.agg vs.toArray)) w:=by
   obtain⟨h1,h2⟩:=mS hs w
   have:=run_loadCells_list (P:=C.P) w ⟨b,o,none⟩ vs (fun j v hj=>by rw[Addr.gl];exact hw w hi j v hj)
   rw[hn] at this
   simp[execOp,ha.eval hx,Instr.loadAt,Instr.sureAddr,loadVar,h1,h2,this]
  exact⟨w,.inl hr,hi,fun _=>hr⟩
def bU{x:Operand}{t n b o T:Nat}{cs vs:List Value}(hs:gR C.P t=some n)(hx:au E x=some (.pointer (some ⟨b,o,none⟩)))(hm:ai b T cs∈L)(hn:vs.length=n)(hv:(cs.drop o).take n=vs):cx C (.load t x) ty E L (.agg vs.toArray) L:=
 wy hs hx hn fun w hi j v hj=>by
  obtain⟨F,hF⟩:=hi.mem hm
  rw[hF.jq,←hj,←hv]
  have:j<n:=by
   have:=(List.getElem?_eq_some_iff.1 hj).1
   omega
  simp[List.getElem?_take,this,List.getElem?_drop]
def ew{x y:Operand}{t b o T:Nat}{cs cs':List Value}{u:Value}(hs:da C.P t=true)(hx:au E x=some (.pointer (some ⟨b,o,none⟩)))(hy:au E y=some u)(h1:u.oneCell'=true)
  (hr:jU L (ai b T cs) (ai b T cs') L') (ho:o<cs.length) (hc:cs.set o u=cs'):cx C (.store t x y) ty E L undef L':=by
 intro d pos aft g a w ha hi
 obtain⟨F,p1,p2⟩:=hr.perm
 have hi1:=hi.perm p1
 have hcell:w.cell? ⟨b,o,none⟩=some cs[o]:=by rw[hi1.jq];simp[ho]
 have hfr:=hi1.xi o ho
 have hcs:u.cells= #[u]:=by cases u<;>first|rfl|(simp[Value.oneCell'] at h1)
 obtain⟨i,hinfo,hsz⟩:=Cx hs
 refine⟨w.setCell ⟨b,o,none⟩ u,.inr ⟨?_,rfl⟩,?_,fun h=>by cases h⟩
 ·have hst:=run_store C.P w ⟨b,o,none⟩ u .plain h1
  simp[hcell,hfr] at hst
  simp[execOp,ha.eval hx,ha.eval hy,Instr.storeAt,Instr.sureAddr,storeVar,hcs,run_sizeOf hinfo,hsz,storeCells,Addr.gl,hst]
 ·rw[←hc] at p2
  exact(hi1.setCell o u).perm p2
def qD{t:TypeId}{zs:List Value}(hz:cW C.P t=some zs):lk C (.alloc t) ty E L (fun v L'=>∃b,v=.pointer (soz b)∧L'=ai b t zs::L):=by
 intro d pos aft g a w K Qx ha hi hK
 obtain⟨i,z,h1,h2,h3,h4⟩:=kJ hz
 have hr:(execOp a.eval ⟨d,.alloc t,ty,pos,aft,g⟩).run C.P w=.ok (.value (.pointer (some ⟨w.heap.size,0,none⟩))) (w.alloc (.cells zs.toArray t)):=by
  simp[execOp,Instr.alloc,zeroValue,typeInfo,h1,h2,newVar,newRow,h3]
 unfold Oper.wp
 rw[hr]
 exact hK _ _ _ ⟨_,rfl,rfl⟩ (hi.alloc t zs)
def XG{t:TypeId}{x:Operand}{u:Value}(hx:au E x=some u):lk C (.box t x) ty E L (fun v L'=>∃b,v=.pointer (soz b)∧L'=ai b t u.cells.toList::L):=by
 intro d pos aft g a w K Qx ha hi hK
 have hr:(execOp a.eval ⟨d,.box t x,ty,pos,aft,g⟩).run C.P w=.ok (.value (.pointer (some ⟨w.heap.size,0,none⟩))) (w.alloc (.cells u.cells.toList.toArray t)):=by
  simp[execOp,ha.eval hx,Instr.box,newVar,newRow]
 unfold Oper.wp
 rw[hr]
 exact hK _ _ _ ⟨_,rfl,rfl⟩ (hi.alloc t _)
def de{t:TypeId}{zs:List Value}(hz:cW C.P t=some zs)(hd:Nat.blt d C.n=true)(k:∀b,dr C ops rest Q ((d,.pointer (soz b))::E) (ai b t zs::L)):dr C ops (⟨some d,.alloc t,ty,pos,aft,none⟩::rest) Q E L:=
 qV (qD hz) hd fun v L' ⟨b,e1,e2⟩=>by subst e1;subst e2;exact k b
def jg{t:TypeId}{x:Operand}{u:Value}{cs:List Value}(hx:au E x=some u)(hc:u.cells.toList=cs)(hd:Nat.blt d C.n=true)(k:∀b,dr C ops rest Q ((d,.pointer (soz b))::E) (ai b t cs::L)):dr C ops (⟨some d,.box t x,ty,pos,aft,none⟩::rest) Q E L:=
 qV (XG hx) hd fun v L' ⟨b,e1,e2⟩=>by subst e1;subst e2;subst hc;exact k b
def jO{w0:World}{b T:Nat}:∀(us:List Value) (o i:Nat) (cs:List Value) (F:List ad) (w:World),(∀u∈us,u.oneCell'=true)→o+i+us.length≤cs.length→Inv w0 (ai b T cs::F) w→
  ∃w',(storeCells ⟨b,o,none⟩ us i).run C.P w=.ok () w'∧Inv w0 (ai b T (cs.take (o+i)++us++cs.drop (o+i+us.length))::F) w'
 |[],o,i,cs,F,w,_,h,hi=>⟨w,rfl,by simpa using hi⟩
 |u::us,o,i,cs,F,w,h1,h,hi=>by
  simp only[List.length_cons] at h
  have hlt:o+i<cs.length:=omg
  have hcell:w.cell? ⟨b,o+i,none⟩=some cs[o+i]:=by rw[hi.jq];simp[hlt]
  have hfr:=hi.xi (o+i) hlt
  have hst:=run_store C.P w ⟨b,o+i,none⟩ u .plain (h1 u (by simp))
  simp[hcell,hfr] at hst
  obtain⟨w',hr,hi'⟩:=jO us o (i+1) (cs.set (o+i) u) F _ (fun x hx=>h1 x (by simp[hx])) (by simp;omega) (hi.setCell (o+i) u)
  refine⟨w',by simp[storeCells,Addr.gl,hst,hr],?_⟩
  have e:(cs.set (o+i) u).take (o+(i+1))++us++(cs.set (o+i) u).drop (o+(i+1)+us.length)=cs.take (o+i)++(u::us)++cs.drop (o+i+(u::us).length):=by
   have e1:(cs.set (o+i) u).take (o+(i+1))=cs.take (o+i)++[u]:=by
    apply List.ext_getElem?
    intro j
    simp only[List.getElem?_take,List.getElem?_set,List.getElem?_append,List.length_take]
    by_cases hj:j<o+i
    ·have:j<o+(i+1):=omg
     have h3:¬(o+i=j):=omg
     have h4:j<min (o+i) cs.length:=omg
     simp[hj,this,h3,h4]
    ·by_cases hj2:j=o+i
     ·subst hj2
      have:o+i<o+(i+1):=omg
      have h4:¬(o+i<min (o+i) cs.length):=omg
      have h5:o+i-min (o+i) cs.length=0:=omg
      simp[this,hlt,h4,h5]
     ·have:¬j<o+(i+1):=omg
      have h4:¬(j<min (o+i) cs.length):=omg
      have h5:¬(j-min (o+i) cs.length=0):=omg
      simp[this,h4,List.getElem?_cons,h5]
   have e2:(cs.set (o+i) u).drop (o+(i+1)+us.length)=cs.drop (o+i+(u::us).length):=by
    rw[List.drop_set_of_lt omg]
    congr 1
    simp;omega
   rw[e1,e2]
   simp
  rw[←e]
  exact hi'
def aZ{x y:Operand}{t b o T n:Nat}{cs cs' us:List Value}(hs:gR C.P t=some n)(hx:au E x=some (.pointer (some ⟨b,o,none⟩)))(hy:au E y=some (.agg us.toArray))(h1:us.all Value.oneCell'=true)(hn:us.length=n)
  (hr:jU L (ai b T cs) (ai b T cs') L') (ho:o+n≤cs.length) (hc:cs.take o++us++cs.drop (o+n)=cs'):cx C (.store t x y) ty E L undef L':=by
 intro d pos aft g a w ha hi
 obtain⟨F,p1,p2⟩:=hr.perm
 have hi1:=hi.perm p1
 obtain⟨h2,h3⟩:=mS hs w
 obtain⟨w',hst,hi'⟩:=jO (C:=C) us o 0 cs F w (fun u hu=>by simpa using List.all_eq_true.1 h1 u hu) omg hi1
 refine⟨w',.inr ⟨?_,rfl⟩,?_,fun h=>by cases h⟩
 ·simp[execOp,ha.eval hx,ha.eval hy,Instr.storeAt,Instr.sureAddr,storeVar,Value.cells,h3,hn,hst]
 ·simp only[Nat.add_zero,hn,hc] at hi'
  exact hi'.perm p2
end
end Go.Sl
namespace Go.Sl
open Go.RowKit (Below)
def aA (P:Program) (f:FuncId) (args:List Value) (Pre:List ad) (Post:Ending→List ad→Prop):Prop:=
 ∀w0 F w,Inv w0 (Pre++F) w→Calls P f args.toArray w fun e w'=>∃G,Inv w0 (G++F) w'∧Post e G
def aF (R:Value→List ad→Prop):Ending→List ad→Prop:=fun e G=>∃v,e=.returned v∧R v G
def aA.mono{P:Program}{f:FuncId}{args:List Value}{Pre:List ad}{Post Post':Ending→List ad→Prop}(h:aA P f args Pre Post)(hp:∀e G,Post e G→Post' e G):aA P f args Pre Post':=
 fun w0 F w hi=>(h w0 F w hi).mono fun e w' ⟨G,h1,h2⟩=>⟨G,h1,hp e G h2⟩
def aA.frame{P:Program}{f:FuncId}{args:List Value}{Pre:List ad}{R:Value→List ad→Prop}(h:aA P f args Pre (aF R))(M:List ad):aA P f args (Pre++M) (aF fun v G=>∃G',R v G'∧G=G'++M):=
 fun w0 F w hi=>(h w0 (M++F) w (by rw[←List.append_assoc];exact hi)).mono fun e w' ⟨G,h1,v,e1,h2⟩=>⟨G++M,by rw[List.append_assoc];exact h1,v,e1,G,h2,rfl⟩
def iG (E:Env):List Operand→Option (List Value)
 |[]=>some []
 |x::xs=>match au E x with|some v=>(match iG E xs with|some vs=>some (v::vs)|none=>none)|none=>none
def gr.iG{C:Ctx}{E:Env}{a:Act}(h:gr C E a):∀ {xs:List Operand} {vs:List Value},iG E xs=some vs→xs.toArray.map a.eval=vs.toArray
 |[],vs,e=>by simp only[Sl.iG] at e;cases e;simp
 |x::xs,vs,e=>by
  simp only[Sl.iG] at e
  split at e<;>try simp at e
  rename_i v hv
  split at e<;>try simp at e
  rename_i us hus
  subst e
  have:=gr.iG h hus
  simp at this ⊢
  exact⟨h.eval hv,this⟩
inductive fG:List ad→List ad→List ad→Prop
 |nil {L:List ad}:fG L [] L
 |cons {L M F Pre:List ad} {A:ad}:ij L A M→fG M Pre F→fG L (A::Pre) F
def fG.perm{L Pre F:List ad}(h:fG L Pre F):L.Perm (Pre++F):=by
 induction h with
 |nil=>exact List.Perm.refl _
 |cons h _ ih=>exact h.perm.trans (List.Perm.cons _ ih)
def gM{P:Program}{f:FuncId}(hb:az P f=true)(vs:Array Value)(w:World):(callFunc f vs).run P w=.ok (.enter f vs) w:=by
 unfold az at hb
 split at hb<;>try simp at hb
 rename_i fn hfn
 obtain⟨h1,h2⟩:=hb
 have h3:fn.body≠none:=by intro e;rw[e] at h1;cases h1
 simp[callFunc,hfn,h2,h3]
section
variable {C:Ctx} {Q:QT} {E:Env} {L L':List ad} {ops:Array Oper} {rest:List Oper} {d:Nat} {ty:TypeId} {pos:String} {aft:Array Edge} {op:Op} {v:Value}
def Jd{f:FuncId}{args:List Operand}{tys:Array TypeId}{vs:List Value}{Pre F:List ad}{R:Value→List ad→Prop}(hS:aA C.P f vs Pre (aF R))(hb:az C.P f=true)(hE:iG E args=some vs)(hL:fG L Pre F):
  lk C (.call ⟨.value (.func f),args.toArray,tys⟩) ty E L (fun v L'=>∃G,R v G∧L'=G++F):=by
 intro d pos aft g a w K Qx ha hi hK
 have hargs:=ha.iG hE
 have hr:(execOp a.eval ⟨d,.call ⟨.value (.func f),args.toArray,tys⟩,ty,pos,aft,g⟩).run C.P w=.ok (.enter f vs.toArray) w:=by
  simp only[execOp,resolve,hargs,Deferred.ofValue,Act.eval,invoke,Sem.run_bind,Sem.run_pure,Result.andThen_ok,Array.append_empty,Array.empty_append,gM hb]
 unfold Oper.wp
 rw[hr]
 refine(hS C.w0 F w (hi.perm hL.perm)).mono ?_
 rintro e w' ⟨G,h1,v,rfl,h2⟩
 exact hK v (G++F) w' ⟨G,h2,rfl⟩ h1
def aQ{f:FuncId}{args:List Operand}{tys:Array TypeId}{vs:List Value}{Pre F:List ad}{R:Value→List ad→Prop}(hS:aA C.P f vs Pre (aF R))(hb:az C.P f=true)(hE:iG E args=some vs)(hL:fG L Pre F)(hd:Nat.blt d C.n=true)
  (k:∀v G,R v G→dr C ops rest Q ((d,v)::E) (G++F)):dr C ops (⟨some d,.call ⟨.value (.func f),args.toArray,tys⟩,ty,pos,aft,none⟩::rest) Q E L:=
 qV (Jd hS hb hE hL) hd fun v L' ⟨G,h1,e⟩=>by subst e;exact k v G h1
def Re{f:FuncId}{t:Nat}{args:List Operand}{tys:Array TypeId}{vs fs cs:List Value}{Pre F:List ad}{R:Value→List ad→Prop}(hS:aA C.P f (fs++vs++cs) Pre (aF R))(hb:az C.P f=true)(ht:E.get t=some (.func (.func f) fs.toArray cs.toArray))(hE:iG E args=some vs)(hL:fG L Pre F)(hd:Nat.blt d C.n=true)
  (k:∀v G,R v G→dr C ops rest Q ((d,v)::E) (G++F)):dr C ops (⟨some d,.call ⟨.value (.tmp t),args.toArray,tys⟩,ty,pos,aft,none⟩::rest) Q E L:=by
 intro a w ha hi
 refine wpList_plain rfl (fun K hK=>?_)
 have hargs:=ha.iG hE
 have hev:=ha.eval (x:=.tmp t) ht
 have hr:(execOp a.eval ⟨some d,.call ⟨.value (.tmp t),args.toArray,tys⟩,ty,pos,aft,none⟩).run C.P w=.ok (.enter f (fs++vs++cs).toArray) w:=by
  simp only[execOp,resolve,hargs,hev,Deferred.ofValue,invoke,Sem.run_bind,Sem.run_pure,Result.andThen_ok,gM hb]
  simp
 unfold Oper.wp
 rw[hr]
 refine(hS C.w0 F w (hi.perm hL.perm)).mono ?_
 rintro e w' ⟨G,h1,v,rfl,h2⟩
 exact hK _ _ (k v G h2 _ _ (ha.put (fY hd) _) h1)
inductive Drop:List ad→List ad→Prop
 |refl {L:List ad}:Drop L L
 |skip {A:ad} {L F:List ad}:Drop L F→Drop (A::L) F
 |keep {A:ad} {L F:List ad}:Drop L F→Drop (A::L) (A::F)
def Drop.inv{w0 w:World}{L F:List ad}(h:Drop L F):∀ {M:List ad},Inv w0 (M++L) w→Inv w0 (M++F) w:=by
 induction h with
 |refl=>exact fun h=>h
 | @skip A L F _ ih=>exact fun{M} h=>ih ((h.perm List.perm_middle).tail)
 | @keep A L F _ ih=>
  intro M h
  have:=ih (M:=M++[A]) (by simpa using h)
  simpa using this
def Sub (L M:List ad):Prop:=∀(w0 w:World),Inv w0 L w→Inv w0 M w
def sub{L G M F:List ad}(h:fG L G M)(d:Drop M F):Sub L (G++F):=fun _ _ hi=>d.inv (hi.perm h.perm)
def Sub.trans{L M N:List ad}(h:Sub L M)(k:Sub M N):Sub L N:=fun w0 w hi=>k w0 w (h w0 w hi)
def fold{A:ad}{B F:List ad}(hA:∀w0 h,cY w0 B h→A w0 h):Sub (B++F) (A::F):=fun w0 w hi=>hi.cls (fun h s=>hA w0 h s)
def k8 (C:Ctx) (rs:Array ResultVar) (E:Env) (L:List ad) (v:Value):Prop:=∀fn a w,fn.results=rs→gr C E a→Inv C.w0 L w→(results fn a.tmps).run C.P w=.ok v w
def fI:k8 C #[] E L (.tuple #[]):=fun fn a w hr ha hi=>by simp[results,hr]
def aw{t:Nat}(h:E.get t=some v):k8 C #[.tmp t] E L v:=fun fn a w hr ha hi=>by simp[results,hr,ha.get _ _ h]
def bR{t u:Nat}{v1 v2:Value}(h1:E.get t=some v1)(h2:E.get u=some v2):k8 C #[.tmp t,.tmp u] E L (.tuple #[v1,v2]):=fun fn a w hr ha hi=>by simp[results,hr,ha.get _ _ h1,ha.get _ _ h2]
def eY{t u x:Nat}{v1 v2 v3:Value}(h1:E.get t=some v1)(h2:E.get u=some v2)(h3:E.get x=some v3):k8 C #[.tmp t,.tmp u,.tmp x] E L (.tuple #[v1,v2,v3]):=fun fn a w hr ha hi=>by simp[results,hr,ha.get _ _ h1,ha.get _ _ h2,ha.get _ _ h3]
def oQ (C:Ctx) (rs:Array ResultVar) (F:List ad) (Post:Ending→List ad→Prop):QT:=fun e E L=>match e with
 |.normal=>∃v G,k8 C rs E L v∧Post (.returned v) G∧Sub L (G++F)
 |.ret=>∃v G,k8 C rs E L v∧Post (.returned v) G∧Sub L (G++F)
 |.panic ch=>∃G,Post (.panicked ch) G∧Sub L (G++F)
 |_=>False
def af{rs:Array ResultVar}{F G:List ad}{R:Value→List ad→Prop}(hr:k8 C rs E L v)(hR:R v G)(hs:Sub L (G++F)):oQ C rs F (aF R) .ret E L:=⟨v,G,hr,⟨v,rfl,hR⟩,hs⟩
def ik{rs:Array ResultVar}{F G:List ad}{R:Value→List ad→Prop}(hr:k8 C rs E L v)(hR:R v G)(hs:Sub L (G++F)):oQ C rs F (aF R) .normal E L:=⟨v,G,hr,⟨v,rfl,hR⟩,hs⟩
def Ac:Nat→List Value→Env
 |_,[]=>[]
 |i,v::vs=>(i,v)::Ac (i+1) vs
def u0:∀(i:Nat) (vs:List Value) (d:Nat) (u:Value),(Ac i vs).get d=some u→i≤d∧vs[d-i]?=some u
 |i,[],d,u,h=>by cases h
 |i,v::vs,d,u,h=>by
  rw[Ac,Env.jv] at h
  by_cases e:i=d
  ·subst e;simp at h;simp[h]
  ·simp only[e,if_false] at h
   obtain⟨h1,h2⟩:=u0 (i+1) vs d u h
   refine⟨omg,?_⟩
   rw[show d-i=d-(i+1)+1 by omega]
   simpa using h2
def ao{P:Program}{f:FuncId}{fn:Func}{c:Code}{args:List Value}{Pre:List ad}{Post:Ending→List ad→Prop}{n:Nat}(E:Env)(hf:P.funcs[f]?=some fn)(hb:fn.body=some c)(hn:fn.ntmps=n)(hE:Ac 0 args=E)(hl:Nat.ble args.length n=true)
  (h:∀w0 F,Wp ⟨P,w0,n,[],fun ch L=>∃G,Post (.panicked ch) G∧Sub L (G++F)⟩ c (oQ ⟨P,w0,n,[],fun ch L=>∃G,Post (.panicked ch) G∧Sub L (G++F)⟩ fn.results F Post) E (Pre++F)):aA P f args Pre Post:=by
 intro w0 F w hi
 have hl:=Nat.le_of_ble_eq_true hl
 refine calls_of_wp hf hb (Code.wp_mono ?_ (h w0 F _ w ?_ hi))
 ·rintro e a w' ⟨E',L',ha',hi',hq⟩
  cases e with
  |normal=>obtain⟨v,G,h1,h2,h3⟩:=hq;exact⟨ha'.defers,v,h1 fn a w' rfl ha' hi',G,h3 _ _ hi',h2⟩
  |ret=>obtain⟨v,G,h1,h2,h3⟩:=hq;exact⟨ha'.defers,v,h1 fn a w' rfl ha' hi',G,h3 _ _ hi',h2⟩
  |panic ch=>obtain⟨G,h1,h2⟩:=hq;exact⟨ha'.defers,G,h2 _ _ hi',h1⟩
  |exit _=>exact hq
  |goto _=>exact hq
  |outgrown=>exact hq.elim
 ·refine⟨rfl,?_,?_⟩
  ·simp[hn];omega
  ·intro d v hd
   rw[←hE] at hd
   obtain⟨_,h2⟩:=u0 0 args d v hd
   have hlt:=(List.getElem?_eq_some_iff.1 h2).1
   simp at h2 hlt ⊢
   rw[Array.getElem?_append_left (by simpa using hlt)]
   simpa using h2
def qQ (w0:World) (h:Hp) (a:Addr):Option Value:=match h a.block with
 |some (.cells c _ _)=>if a.spot.isSome then none else c[a.off]?
 |some _=>none
 |none=>if a.block<w0.heap.size then w0.cell? a else none
def wA{w0 w:World}{h:Hp}{a:Addr}{u:Value}(hb:Below w0.heap.size w0 w)(hh:∀b o,h b=some o→w0.heap.size≤b∧w.heap[b]?=some o)(e:qQ w0 h a=some u):w.cell? a=some u:=by
 unfold qQ at e
 split at e
 ·rename_i c T fr hc
  have:=(hh _ _ hc).2
  simp only[World.cell?,this]
  exact e
 ·cases e
 ·split at e
  ·rename_i hlt;rw[hb.cell hlt];exact e
  ·cases e
def Rd (p:Option Addr) (n sz:Nat) (vs:List Value):ad:=fun w0 h=>vs.length=n*sz∧(n=0∨∃b o,p=some ⟨b,o,none⟩∧∀i v,vs[i]?=some v→qQ w0 h ⟨b,o+i,none⟩=some v)
def Sl (p:Option Addr) (n cap:Nat) (T:TypeId) (sz:Nat) (vs:List Value):ad:=fun w0 h=>
 (p=none∧n=0∧cap=0∧vs=[])∨
 ∃b o pre post,p=some ⟨b,o,none⟩∧ai b T (pre++vs++post) w0 h∧pre.length=o∧vs.length=n*sz∧(cap-n)*sz≤post.length∧n≤cap
def Sl.rd{p:Option Addr}{n cap T sz:Nat}{vs:List Value}{w0:World}{h:Hp}(hs:Sl p n cap T sz vs w0 h):Rd p n sz vs w0 h:=by
 rcases hs with⟨rfl,rfl,rfl,rfl⟩|⟨b,o,pre,post,rfl,h1,h2,h3,h4,h5⟩
 ·exact⟨by simp,.inl rfl⟩
 ·refine⟨h3,.inr ⟨b,o,rfl,fun i v hv=>?_⟩⟩
  obtain⟨_,h1⟩:=h1
  have hlt:=(List.getElem?_eq_some_iff.1 hv).1
  simp only[qQ,h1,Option.isSome_none,Bool.false_eq_true,if_false,List.getElem?_toArray]
  rw[List.append_assoc,List.getElem?_append_right omg,h2,show o+i-o=i by omega,List.getElem?_append_left hlt,hv]
def Inv.rd{w0 w:World}{L:List ad}{R:ad}{p:Option Addr}{n sz:Nat}{vs:List Value}(hi:Inv w0 L w)(hm:R∈L)(hR:∀h,R w0 h→Rd p n sz vs w0 h):
  vs.length=n*sz∧(n=0∨∃b o,p=some ⟨b,o,none⟩∧∀i v,vs[i]?=some v→w.cell? ⟨b,o+i,none⟩=some v):=by
 obtain⟨F,hb,h,a,h1,h2,d,l1,l2,hp,k⟩:=hi.mem hm
 obtain⟨e1,e2⟩:=hR h1 hp
 refine⟨e1,e2.imp id ?_⟩
 rintro⟨b,o,rfl,hc⟩
 exact⟨b,o,rfl,fun i v hv=>wA hb (fun b o e=>a b o (l1 b o e)) (hc i v hv)⟩
def Inv.yd{w0 w:World}{L:List ad}{A:ad}(hi:Inv w0 L w)(hA:A w0 (fun _=>none)):Inv w0 (A::L) w:=
 ⟨hi.below,let⟨h,a,k⟩:=hi.heap;⟨h,a,fun _=>none,h,fun _=>.inl rfl,fun _ _ e=>by simp at e,Hp.le_refl _,hA,k⟩⟩
def WO{p:Prop}(h:∀w,Inv C.w0 L w→p)(k:p→dr C ops rest Q E L):dr C ops rest Q E L:=fun a w ha hi=>k (h w hi) a w ha hi
def fe{c:Code}{p:Prop}(h:∀w,Inv C.w0 L w→p)(k:p→Wp C c Q E L):Wp C c Q E L:=fun a w ha hi=>k (h w hi) a w ha hi
def KB{w0 w:World}{L:List ad}{p:Option Addr}{n cap T sz:Nat}{vs:List Value}(hi:Inv w0 L w)(hm:Sl p n cap T sz vs∈L):
  vs.length=n*sz∧n≤cap∧(n=0∨∃b o,p=some ⟨b,o,none⟩):=by
 obtain⟨F,hb,h,a,h1,h2,d,l1,l2,hp,k⟩:=hi.mem hm
 rcases hp with⟨rfl,rfl,rfl,rfl⟩|⟨b,o,pre,post,rfl,e1,e2,e3,e4,e5⟩
 ·exact⟨by simp,Nat.le_refl _,.inl rfl⟩
 ·exact⟨e3,e5,.inr ⟨b,o,rfl⟩⟩
def lA{x:Operand}{t ty':TypeId}{e:TypeId}{p:Option Addr}{n cap:Nat}(ht:C.P.underlying t=some (.slice e))(h:au E x=some (.slice p n cap)):cx C (.call ⟨.builtin .len,[x].toArray, #[t]⟩) ty E L (.int .i64 n) L:=
 dM fun d pos aft g a w ha=>by simp[execOp,resolve,invoke,builtin,Builtin.len_,ha.eval h,run_underlying ht,goInt]
def N2{x:Operand}{t ty':TypeId}{e:TypeId}{p:Option Addr}{n cap:Nat}(ht:C.P.underlying t=some (.slice e))(h:au E x=some (.slice p n cap)):cx C (.call ⟨.builtin .cap,[x].toArray, #[t]⟩) ty E L (.int .i64 cap) L:=
 dM fun d pos aft g a w ha=>by simp[execOp,resolve,invoke,builtin,Builtin.cap_,ha.eval h,run_underlying ht,goInt]
def Mh{x y:Operand}{tys:Array TypeId}{k:IntKind}{m n:Int}(hx:au E x=some (.int k m))(hy:au E y=some (.int k n)):cx C (.call ⟨.builtin .min,[x,y].toArray,tys⟩) ty E L (.int k (if n<m then n else m)) L:=
 dM fun d pos aft g a w ha=>by simp[execOp,resolve,invoke,builtin,Builtin.min_,Builtin.min2,ha.eval hx,ha.eval hy]
def zJ{x y:Operand}{tys:Array TypeId}{k:IntKind}{m n:Int}(hx:au E x=some (.int k m))(hy:au E y=some (.int k n)):cx C (.call ⟨.builtin .max,[x,y].toArray,tys⟩) ty E L (.int k (if m<n then n else m)) L:=
 dM fun d pos aft g a w ha=>by simp[execOp,resolve,invoke,builtin,Builtin.max_,Builtin.max2,ha.eval hx,ha.eval hy]
def JZ{x y:Operand}{t b o q n cap T sz:Nat}{vs vs':List Value}{u:Value}(i:Nat)(hs:da C.P t=true)(hx:au E x=some (.pointer (some ⟨b,q,none⟩)))(hy:au E y=some u)(h1:u.oneCell'=true)
  (hr:jU L (Sl (some ⟨b,o,none⟩) n cap T sz vs) (Sl (some ⟨b,o,none⟩) n cap T sz vs') L') (hq:q=o+i) (hlt:i<vs.length) (hc:vs.set i u=vs'):cx C (.store t x y) ty E L undef L':=by
 intro d pos aft g a w ha hi
 obtain⟨F,p1,p2⟩:=hr.perm
 obtain⟨⟨b',o',pre,post⟩,⟨e1,e2,e3,e4,e5⟩,hi1⟩:=(hi.perm p1).zr (ι:=Nat×Nat×List Value×List Value) (K:=fun z=>(some (⟨b,o,none⟩:Addr)=some ⟨z.1,z.2.1,none⟩)∧z.2.2.1.length=z.2.1∧vs.length=n*sz∧(cap-n)*sz≤z.2.2.2.length∧n≤cap)
  (B:=fun z=>[ai z.1 T (z.2.2.1++vs++z.2.2.2)]) (by
   rintro h (⟨e,_⟩|⟨b',o',pre,post,e1,e2,e3,e4,e5,e6⟩)
   ·cases e
   ·exact⟨(b',o',pre,post),⟨e1,e3,e4,e5,e6⟩,h,fun _=>none,fun _=>.inr rfl,Hp.le_refl _,fun _ _ e=>by simp at e,e2,trivial⟩)
 simp only at e1 e2 e3 e4 e5 hi1
 cases e1
 subst hq
 obtain⟨w',hr1,hi2,_⟩:=ew (C:=C) (E:=E) (ty:=ty) (o:=o+i) (cs:=pre++vs++post) (cs':=pre++vs'++post) hs hx hy h1 (jU.head (L:=F)) (by simp;omega) (by
  rw[←hc,List.append_assoc,List.set_append_right _ _ omg,show o+i-pre.length=i by omega,List.set_append_left _ _ hlt,List.append_assoc]) d pos aft g a w ha hi1
 refine⟨w',hr1,?_,fun h=>by cases h⟩
 refine Inv.perm ?_ p2
 refine Inv.cls (B:=[ai b T (pre++vs'++post)]) ?_ hi2
 rintro h ⟨h1,h2,_,l1,_,c,_⟩
 exact .inr ⟨b,o,pre,post,rfl,c.mono l1,e2,by rw[←hc];simpa using e3,e4,e5⟩
def cM (p:Option Addr) (l m sz:Nat):Option Addr:=if m=l then p else p.map (·.add (l*sz))
def pF(p:Option Addr)(m sz:Nat):cM p 0 m sz=p:=by
 unfold cM
 split
 ·rfl
 ·cases p<;>simp[Addr.add]
def IT(b o l m sz:Nat)(h:l<m):cM (some ⟨b,o,none⟩) l m sz=some ⟨b,o+l*sz,none⟩:=by
 unfold cM
 rw[if_neg omg]
 simp[Addr.gl]
def dZ{x:Operand}{lo hi mx:Option Operand}{t e sz cJ n cap:Nat}{p:Option Addr}(l r m:Nat)(ht:sliceB C.P t=some (e,sz,cJ))(hx:au E x=some (.slice p n cap))
  (hl:match lo with|none=>l=0|some z=>∃k,au E z=some (.int k (l:Int)))
  (hr:match hi with|none=>r=n∧mx=none|some z=>∃k,au E z=some (.int k (r:Int)))
  (hm:match mx with|none=>m=cap|some z=>∃k,au E z=some (.int k (m:Int)))
  (h1:l≤r) (h2:r≤m) (h3:m≤cap):cx C (.slice t x lo hi mx) ty E L (.slice (cM p l m sz) (r-l) (m-l)) L:=
 dM fun d pos aft g a w ha=>by
  obtain⟨e1,i,e2,e3,e4⟩:=j8 ht
  have key:∀(z:Operand) (j y:Nat) (c:BoundsCode) k,au E z=some (.int k (j:Int))→j≤y→(Instr.sliceBound (a.eval z) y c).run C.P w=.ok j w:=by
   intro z j y c k hz hj
   have:(j:Int)≤(y:Int):=omg
   simp[Instr.sliceBound,ha.eval hz,asIntOf,hj]
  have hb:(Instr.sliceBounds true n cap (lo.map a.eval) (hi.map a.eval) (mx.map a.eval)).run C.P w=.ok (l,r,m) w:=by
   unfold Instr.sliceBounds
   cases mx with
   |none=>
    simp only at hm
    subst hm
    cases hi with
    |none=>
     simp only at hr
     obtain⟨rfl,_⟩:=hr
     cases lo with
     |none=>simp only at hl;subst hl;simp
     |some z=>simp only at hl;obtain⟨k,hz⟩:=hl;simp[key z l _ _ k hz h1]
    |some y=>
     simp only at hr
     obtain⟨k',hy⟩:=hr
     cases lo with
     |none=>simp only at hl;subst hl;simp[key y r _ _ k' hy h2]
     |some z=>simp only at hl;obtain⟨k,hz⟩:=hl;simp[key z l _ _ k hz h1,key y r _ _ k' hy h2]
   |some u=>
    simp only at hm
    obtain⟨k2,hu⟩:=hm
    cases hi with
    |none=>simp at hr
    |some y=>
     simp only at hr
     obtain⟨k',hy⟩:=hr
     cases lo with
     |none=>simp only at hl;subst hl;simp[key y r _ _ k' hy h2,key u m _ _ k2 hu h3]
     |some z=>simp only at hl;obtain⟨k,hz⟩:=hl;simp[key z l _ _ k hz h1,key y r _ _ k' hy h2,key u m _ _ k2 hu h3]
  simp[execOp,ha.eval hx,Instr.sliceAt,run_underlying e1,Instr.slice,hb,run_sizeOf e2,e3,cM]
end
end Go.Sl

/- Walks of functions that the law reaches, and what they lean on; no conditions. -/
import Derived.Test.YtmaiakpjgomnpaaGreatM9
set_option linter.defProp false
set_option maxHeartbeats 16000000
set_option maxRecDepth 100000
set_option linter.unusedVariables false
set_option linter.unusedSimpArgs false
set_option maxRecDepth 100000
namespace Go.Proofs.YtmaiakpjgomnpaaGreat
open Go.Sl 
attribute [local irreducible] ag.aq aa.off aa.sD aa.qC aa.gz aa.gq aa.iY aa.ee aa.jY aa.hH aa.uG

def F2(a:Int)(ha: -255≤a∧a≤510)(y:Int)(hy:0≤y∧y<256):aA Tryz.prog 163 [I6 a,I6 y] [] (aF fun v G=>v=I6 (aa.off a y)∧G=[]):=by
 refine ao [(0,_),(1,_)] Tryz.func163 rfl Tryz.ntmps163 rfl rfl ?_
 intro w0 F
 refine HX TT 13 rfl omg<|(Z5)<|(Q7) ?_
 exact af (aw rfl) ⟨rfl,rfl⟩ (sub .nil aj)

def Ay(a:Int)(ha: -255≤a∧a≤510)(y:Int)(hy:0≤y∧y<256):aA Tryz.prog 130 [I6 a,.int .u8 y] [] (aF fun v G=>v=I6 (aa.off a y)∧G=[]):=by
 refine ao [(0,_),(1,_)] Tryz.func130 rfl Tryz.ntmps130 rfl rfl ?_
 intro w0 F
 refine(mz)<|(mi)<|(o7)<|(mi)<|(o7)<|(Z5)<|(Q7) ?_
 exact af (aw rfl) ⟨rfl,rfl⟩ (sub .nil aj)

def PL(x:Int)(hx:0≤x∧x<256)(y:Int)(hy:0≤y∧y<256)(z:Int)(hz:0≤z∧z<256):aA Tryz.prog 165 [.int .u8 x,.int .u8 y,.int .u8 z] [] (aF fun v G=>v=.int .u8 (aa.sD x y z)∧G=[]):=by
 refine ao [(0,_),(1,_),(2,_)] Tryz.func165 rfl Tryz.ntmps165 rfl rfl ?_
 intro w0 F
 refine(QQ)<|(mi)<|(Q8)<|(mi)<|(Q8)<|(mi)<|(Q6) ?_
 rcases(aa.S7 x y z) with⟨q1,q2,hs⟩|⟨q1,q2,q3,hs⟩|⟨q1,q2,q3,hs⟩|⟨q1,q3,hs⟩|⟨q1,q3,hs⟩
 ·refine(Hm)<|(yL)<|(Q9)<|(wg)<|(DR)<|(Qk)<|(yL)<|(Qm)<|(Bu)<|(Q0) ?_
  refine oV (bQ (il rfl rfl) q2)<|(QE) ?_
  exact af (aw rfl) ⟨congrArg (Value.int .u8) hs.symm,rfl⟩ (sub .nil aj)
 ·refine(Hm)<|(yL)<|(Q9)<|(wg)<|(DR)<|(Qk)<|(yL)<|(Qm)<|(Bu)<|(Q0)<|(Ma)<|(Qn)<|(wg)<|(Q9)<|(Bu)<|(NJ)<|(Qq) ?_
  exact af (aw rfl) ⟨congrArg (Value.int .u8) hs.symm,rfl⟩ (sub .nil aj)
 ·refine(Hm)<|(yL)<|(Q9)<|(wg)<|(DR)<|(Qk)<|(yL)<|(Qm)<|(Bu)<|(Q0)<|(Ma)<|(Qn)<|(wg)<|(Q9)<|(Bu)<|(Om)<|(QE) ?_
  exact af (aw rfl) ⟨congrArg (Value.int .u8) hs.symm,rfl⟩ (sub .nil aj)
 ·refine(Hm)<|(yL)<|(Q9)<|(wg)<|(Mm)<|(rZ)<|(wg)<|(Q9)<|(Bu)<|(NJ)<|(Qq) ?_
  exact af (aw rfl) ⟨congrArg (Value.int .u8) hs.symm,rfl⟩ (sub .nil aj)
 ·refine(Hm)<|(yL)<|(Q9)<|(wg)<|(Mm)<|(rZ)<|(wg)<|(Q9)<|(Bu)<|(Om)<|(QE) ?_
  exact af (aw rfl) ⟨congrArg (Value.int .u8) hs.symm,rfl⟩ (sub .nil aj)

def Ro(x:Int)(hx:0≤x∧x<256)(y:Int)(hy:0≤y∧y<256)(z:Int)(hz:0≤z∧z<256):aA Tryz.prog 95 [.int .u8 x,.int .u8 y,.int .u8 z] [] (aF fun v G=>v=.int .u8 (aa.sD x y z)∧G=[]):=by
 refine ao [(0,_),(1,_),(2,_)] Tryz.func95 rfl Tryz.ntmps95 rfl rfl ?_
 intro w0 F
 refine(QQ)<|(mi)<|(Q8)<|(mi)<|(o7)<|(mi)<|(uw) ?_
 rcases(aa.S7 x y z) with⟨q1,q2,hs⟩|⟨q1,q2,q3,hs⟩|⟨q1,q2,q3,hs⟩|⟨q1,q3,hs⟩|⟨q1,q3,hs⟩
 ·refine(Q4)<|(Gy)<|(Q9)<|(Hh)<|(Q9)<|(II)<|(Qj)<|(DR)<|(Qk) ?_
  refine oV (bQ (il rfl rfl) q2)<|(QE) ?_
  exact af (aw rfl) ⟨congrArg (Value.int .u8) hs.symm,rfl⟩ (sub .nil aj)
 ·refine(Q4)<|(Gy)<|(Q9)<|(Hh)<|(Q9)<|(II)<|(Qj)<|(DR)<|(Qk)<|(Ma)<|(Qn)<|(NJ)<|(Qq) ?_
  exact af (aw rfl) ⟨congrArg (Value.int .u8) hs.symm,rfl⟩ (sub .nil aj)
 ·refine(Q4)<|(Gy)<|(Q9)<|(Hh)<|(Q9)<|(II)<|(Qj)<|(DR)<|(Qk)<|(Ma)<|(Qn)<|(Om)<|(QE) ?_
  exact af (aw rfl) ⟨congrArg (Value.int .u8) hs.symm,rfl⟩ (sub .nil aj)
 ·refine(Q4)<|(Gy)<|(Q9)<|(Hh)<|(Q9)<|(II)<|(Qj)<|(Mm)<|(Qq)<|(NJ)<|(Qq) ?_
  exact af (aw rfl) ⟨congrArg (Value.int .u8) hs.symm,rfl⟩ (sub .nil aj)
 ·refine(Q4)<|(Gy)<|(Q9)<|(Hh)<|(Q9)<|(II)<|(Qj)<|(Mm)<|(Qq)<|(Om)<|(QE) ?_
  exact af (aw rfl) ⟨congrArg (Value.int .u8) hs.symm,rfl⟩ (sub .nil aj)

def KN(p:Option Addr)(c n:Nat)(L:List Int)(R:ad)(hR:∀w0 h,R w0 h→aE U5 p n L w0 h)(hn:L.length=n)(hB:ag.aq L)(j:Int):aA Tryz.prog 164 [.slice p n c,I6 j] [R] (aF fun v G=>v=.int .u8 (aa.uG L j)∧G=[R]):=by
 refine ao [(0,_),(1,_)] Tryz.func164 rfl Tryz.ntmps164 rfl rfl ?_
 intro w0 F
 refine(QV) ?_
 rcases(aa.ab3 L j) with⟨q1,hs⟩|⟨q1,q2,hs⟩|⟨q1,q2,hs⟩
 ·refine(Q4)<|(QG)<|(QO) ?_
  exact af (aw rfl) ⟨congrArg (Value.int .u8) hs.symm,rfl⟩ (sub (an .nil) aj)
 ·refine(Q4)<|(QL)<|(Qu)<|(nf)<|(Qj) ?_
  exact af (aw rfl) ⟨congrArg (Value.int .u8) hs.symm,rfl⟩ (sub (an .nil) aj)
 ·refine(Q4)<|(QL)<|(Qu)<|(qa)<|(Qg)<|(GS)<|(I1)<|(Q7) ?_
  exact af (aw rfl) ⟨congrArg (Value.int .u8) hs.symm,rfl⟩ (sub (an .nil) aj)

def T1(kind:Int)(p1:Option Addr)(c1 n1:Nat)(L1:List Int)(R1:ad)(hR1:∀w0 h,R1 w0 h→aE U5 p1 n1 L1 w0 h)(hn1:L1.length=n1)(hB1:ag.aq L1)(p2:Option Addr)(c2 n2:Nat)(L2:List Int)(R2:ad)(hR2:∀w0 h,R2 w0 h→aE U5 p2 n2 L2 w0 h)(hn2:L2.length=n2)(hB2:ag.aq L2)(i back:Nat)(hi:i<500000000)(hbk:back≤8):aA Tryz.prog 141 [I6 kind,.slice p1 n1 c1,.slice p2 n2 c2,I6 (back:Int),I6 (i:Int)] [R1,R2] (aF fun v G=>v=.int .u8 (aa.qC kind (aa.gz L1 i back) (L2.getD i 0) (aa.gz L2 i back))∧G=[R1,R2]):=by
 refine ao [(0,_),(1,_),(2,_),(3,_),(4,_)] Tryz.func141 rfl Tryz.ntmps141 rfl rfl ?_
 intro w0 F
 have ha:=aa.zR hB1 i back
 have hb:0≤(L2.getD i 0)∧(L2.getD i 0)<256:=hB2.get i
 have hd:=aa.zR hB2 i back
 refine HX TT 11 rfl omg<|oC (KN p1 c1 n1 L1 R1 hR1 hn1 hB1 ((i:Int)-(back:Int))) V.JK rfl (an .nil) rfl ?_
 rw[aa.Ir]
 refine(Q9) ?_
 refine oC (KN p2 c2 n2 L2 R2 hR2 hn2 hB2 (i:Int)) V.JK rfl (.cons ar .nil) rfl ?_
 rw[aa.OK]
 refine(uw) ?_
 refine oC (KN p2 c2 n2 L2 R2 hR2 hn2 hB2 ((i:Int)-(back:Int))) V.JK rfl (an .nil) rfl ?_
 rw[aa.Ir]
 refine(Q6) ?_
 rcases(aa.Sm kind (aa.gz L1 i back) (L2.getD i 0) (aa.gz L2 i back)) with⟨q1,hs⟩|⟨q1,q2,hs⟩|⟨q1,q2,q3,hs⟩|⟨q1,q2,q3,q4,hs⟩|⟨q1,q2,q3,q4,hs⟩
 ·refine(QJ)<|(QD)<|(Qq) ?_
  exact af (aw rfl) ⟨congrArg (Value.int .u8) hs.symm,rfl⟩ (sub (.cons ar (an .nil)) aj)
 ·refine(QJ) ?_
  refine(QA) ?_
  refine(Q1) ?_
  refine(QD) ?_
  refine(Qq) ?_
  exact af (aw rfl) ⟨congrArg (Value.int .u8) hs.symm,rfl⟩ (sub (.cons ar (an .nil)) aj)
 ·refine(QJ) ?_
  refine(QA) ?_
  refine(Q1) ?_
  refine(QA) ?_
  refine(Q1) ?_
  refine(QD) ?_
  refine(Qd) ?_
  refine(mi) ?_
  refine(Q8) ?_
  refine(mi) ?_
  refine(Is) ?_
  refine(Zs) ?_
  refine(sb) ?_
  refine(Q1) ?_
  exact af (aw rfl) ⟨congrArg (Value.int .u8) hs.symm,rfl⟩ (sub (.cons ar (an .nil)) aj)
 ·refine(QJ) ?_
  refine(QA) ?_
  refine(Q1) ?_
  refine(QA) ?_
  refine(Q1) ?_
  refine(QA) ?_
  refine(Q1) ?_
  refine(QD) ?_
  refine(Qn) ?_
  refine oC (PL (aa.gz L1 i back) ha (L2.getD i 0) hb (aa.gz L2 i back) hd) V.acj rfl .nil rfl ?_
  refine(Q1) ?_
  exact af (aw rfl) ⟨congrArg (Value.int .u8) hs.symm,rfl⟩ (sub (.cons ar (an .nil)) aj)
 ·refine(QJ) ?_
  refine(QA) ?_
  refine(Q1) ?_
  refine(QA) ?_
  refine(Q1) ?_
  refine(QA) ?_
  refine(Q1) ?_
  refine(QA) ?_
  refine(Qq) ?_
  exact af (aw rfl) ⟨congrArg (Value.int .u8) hs.symm,rfl⟩ (sub (.cons ar (an .nil)) aj)

def Tx(kind:Int)(p1:Option Addr)(c1 n1:Nat)(L1:List Int)(R1:ad)(hR1:∀w0 h,R1 w0 h→aE U5 p1 n1 L1 w0 h)(hn1:L1.length=n1)(hB1:ag.aq L1)(p2:Option Addr)(c2 n2:Nat)(L2:List Int)(R2:ad)(hR2:∀w0 h,R2 w0 h→aE U5 p2 n2 L2 w0 h)(hn2:L2.length=n2)(hB2:ag.aq L2)(i back:Nat)(hi:i<500000000)(hbk:back≤8)(hi1:i<n1)(hi2:n2=0∨i<n2):aA Tryz.prog 61 [I6 kind,.slice p1 n1 c1,.slice p2 n2 c2,I6 (i:Int),I6 (back:Int)] [R1,R2] (aF fun v G=>v=.int .u8 (aa.qC kind (aa.gz L1 i back) (L2.getD i 0) (aa.gz L2 i back))∧G=[R1,R2]):=by
 refine ao [(0,_),(1,_),(2,_),(3,_),(4,_)] Tryz.func61 rfl Tryz.ntmps61 rfl rfl ?_
 intro w0 F
 have ha:=aa.zR hB1 i back
 have hb:0≤(L2.getD i 0)∧(L2.getD i 0)<256:=hB2.get i
 have hd:=aa.zR hB2 i back
 refine rT TT 12 rfl ?_
 refine gv (fun(u:Unit)=>[(0,I6 kind),(2,.slice p2 n2 c2),(3,I6 (i:Int)),(4,I6 (back:Int)),(11,.int .u8 (aa.gz L1 i back)),(12,.int .u8 0),(13,.int .u8 0)]) (fun(u:Unit)=>R1::R2::F) (fun(u:Unit)=>True) ?_ ?_
 ·rcases(Nat.lt_or_ge i back) with hlt|hlt
  ·refine rL TT 4 rfl<|(qa)<|(Q7) ?_
   (rw[aa.Mj (by assumption)];exact j1 () trivial (fF (bb ln)) (sub (aJ .nil) aj))
  ·refine rL TT 4 rfl<|(nf)<|(QP) ?_
   refine oV (xI V.bT (by exact bK hR1 ay))<|oV (xL V.s5 (by exact bK hR1 ay))<|(Q9) ?_
   (rw[show(aa.gz L1 i back)=U5.g L1 ((i:Int)-(back:Int)) from aa.MK hlt];exact j1 () trivial (fF (bb ln)) (sub (aJ .nil) aj))
 ·intro u
  rintro-
  refine gv (fun(u:Unit)=>[(0,I6 kind),(11,.int .u8 (aa.gz L1 i back)),(12,.int .u8 (L2.getD i 0)),(13,.int .u8 (aa.gz L2 i back))]) (fun(u:Unit)=>R1::R2::F) (fun(u:Unit)=>True) ?_ ?_
  ·rcases(Nat.eq_zero_or_pos n2) with hz|hz
   ·refine rL TT 4 rfl<|(Qo)<|(Q7) ?_
    (obtain rfl:L2=[]:=List.length_eq_zero_iff.1 omg;rw[aa.TC];exact j1 () trivial (cK ln) (sub (aJ .nil) aj))
   ·refine rL TT 4 rfl<|(Qp)<|(Qd)<|(ZC)<|(Qc) ?_
    rcases(Nat.lt_or_ge i back) with hlt|hlt
    ·refine(Q4)<|(qa)<|(Q7) ?_
     (rw[aa.Mj (l:=L2) (by assumption)];exact j1 () trivial (cK ln) (sub (aJ .nil) aj))
    ·refine(Q4)<|(nf)<|(QP)<|(ZC)<|(Q9) ?_
     (rw[show(aa.gz L2 i back)=U5.g L2 ((i:Int)-(back:Int)) from aa.MK (by assumption)];exact j1 () trivial (cK ln) (sub (aJ .nil) aj))
  ·intro u
   rintro-
   rcases(aa.Sm kind (aa.gz L1 i back) (L2.getD i 0) (aa.gz L2 i back)) with⟨q1,hs⟩|⟨q1,q2,hs⟩|⟨q1,q2,q3,hs⟩|⟨q1,q2,q3,q4,hs⟩|⟨q1,q2,q3,q4,hs⟩
   ·refine(QJ)<|(QD)<|(Qq) ?_
    exact af (aw rfl) ⟨congrArg (Value.int .u8) hs.symm,rfl⟩ (sub (aJ .nil) aj)
   ·refine(QJ) ?_
    refine(QA) ?_
    refine(Q1) ?_
    refine(QD) ?_
    refine(Qq) ?_
    exact af (aw rfl) ⟨congrArg (Value.int .u8) hs.symm,rfl⟩ (sub (aJ .nil) aj)
   ·refine(QJ) ?_
    refine(QA) ?_
    refine(Q1) ?_
    refine(QA) ?_
    refine(Q1) ?_
    refine(QD) ?_
    refine(Qd) ?_
    refine(mi) ?_
    refine(Q8) ?_
    refine(mi) ?_
    refine(Is) ?_
    refine(Zs) ?_
    refine(sb) ?_
    refine(Q1) ?_
    exact af (aw rfl) ⟨congrArg (Value.int .u8) hs.symm,rfl⟩ (sub (aJ .nil) aj)
   ·refine(QJ) ?_
    refine(QA) ?_
    refine(Q1) ?_
    refine(QA) ?_
    refine(Q1) ?_
    refine(QA) ?_
    refine(Q1) ?_
    refine(QD) ?_
    refine(Qn) ?_
    refine oC (Ro (aa.gz L1 i back) ha (L2.getD i 0) hb (aa.gz L2 i back) hd) V.b95 rfl .nil rfl ?_
    refine(Q1) ?_
    exact af (aw rfl) ⟨congrArg (Value.int .u8) hs.symm,rfl⟩ (sub (aJ .nil) aj)
   ·refine(QJ) ?_
    refine(QA) ?_
    refine(Q1) ?_
    refine(QA) ?_
    refine(Q1) ?_
    refine(QA) ?_
    refine(Q1) ?_
    refine(QA) ?_
    refine(Qq) ?_
    exact af (aw rfl) ⟨congrArg (Value.int .u8) hs.symm,rfl⟩ (sub (aJ .nil) aj)

def Nn(kind:Int)(p1:Option Addr)(c1 n1:Nat)(L1:List Int)(R1:ad)(hR1:∀w0 h,R1 w0 h→aE U5 p1 n1 L1 w0 h)(hn1:L1.length=n1)(hB1:ag.aq L1)(p2:Option Addr)(c2 n2:Nat)(L2:List Int)(R2:ad)(hR2:∀w0 h,R2 w0 h→aE U5 p2 n2 L2 w0 h)(hn2:L2.length=n2)(hB2:ag.aq L2)(back:Nat)(hbk:1≤back∧back≤8)(h2:n2=0∨n2=n1)(hk:0≤kind)(hn1s:n1<500000000)(t:Bool)(ht:t=decide (kind<5)):aA Tryz.prog 140 [I6 kind,.slice p1 n1 c1,.slice p2 n2 c2,I6 (back:Int)] [R1,R2] (aF fun v G=>v=.bool t∧G=[R1,R2]):=by
 refine ao [(0,_),(1,_),(2,_),(3,_)] Tryz.func140 rfl Tryz.ntmps140 rfl rfl ?_
 intro w0 F
 refine(QV) ?_
 rcases((by by_cases h:kind<5;exact(Nat.eq_zero_or_pos n2).elim (fun q=>.inr (.inl ⟨h,q⟩)) (fun q=>.inr (.inr ⟨h,q⟩));exact .inl h:¬kind<5∨(kind<5∧n2=0)∨(kind<5∧0<n2))) with hq|⟨hq,hz⟩|⟨hq,hz⟩
 ·refine(Q3)<|(nf)<|(Qm) ?_
  refine oV (bC (dD rfl rfl) hq)<|rO TT 25 rfl ?_
  (obtain rfl:t=false:=ht.trans (decide_eq_false hq);exact af (G:=[R1,R2]) (aw rfl) ⟨rfl,rfl⟩ (sub (aJ .nil) aj))
 ·refine(Q3)<|(nf)<|(Qm)<|(NG)<|(Qk)<|(nf)<|(Qk)<|(yz)<|(Qu)<|(QD)<|(Qy) ?_
  (obtain rfl:t=true:=ht.trans (decide_eq_true hq);exact af (G:=[R1,R2]) (aw rfl) ⟨rfl,rfl⟩ (sub (aJ .nil) aj))
 ·refine(Q3)<|(nf)<|(Qm)<|(NG)<|(Qk)<|(nf)<|(Qk)<|(yz)<|(Qu)<|(QA)<|(sx)<|(QD)<|(Q1) ?_
  (obtain rfl:t=true:=ht.trans (decide_eq_true hq);exact af (G:=[R1,R2]) (aw rfl) ⟨rfl,rfl⟩ (sub (aJ .nil) aj))

def WV(kind:Int)(p1:Option Addr)(c1 n1:Nat)(L1:List Int)(R1:ad)(hR1:∀w0 h,R1 w0 h→aE U5 p1 n1 L1 w0 h)(hn1:L1.length=n1)(hB1:ag.aq L1)(p2:Option Addr)(c2 n2:Nat)(L2:List Int)(R2:ad)(hR2:∀w0 h,R2 w0 h→aE U5 p2 n2 L2 w0 h)(hn2:L2.length=n2)(hB2:ag.aq L2)(back:Nat)(hbk:1≤back∧back≤8)(h2:n2=0∨n2=n1)(hk:0≤kind)(hn1s:n1<500000000):aA Tryz.prog 120 [I6 kind,.slice p1 n1 c1,.slice p2 n2 c2,I6 (back:Int)] [R1,R2] (aF fun v G=>(4<kind∧v=.tuple #[.slice none 0 0,.bool false]∧G=[R1,R2])∨(¬4<kind∧∃q cq,v=.tuple #[.slice q n1 cq,.bool true]∧G=[Row U5 q n1 cq (aa.ee kind L1 L2 back),R1,R2])):=by
 refine ao [(0,_),(1,_),(2,_),(3,_)] Tryz.func120 rfl Tryz.ntmps120 rfl rfl ?_
 intro w0 F
 refine(l6) ?_
 rcases(Int.lt_or_le 4 kind) with hq|hq
 ·refine(Qr) ?_
  refine oC (Nn kind p1 c1 n1 L1 R1 hR1 hn1 hB1 p2 c2 n2 L2 R2 hR2 hn2 hB2 back hbk h2 hk hn1s false (decide_eq_false omg).symm) V.V8 rfl (aJ .nil) rfl<|(Qy) ?_
  exact af (bR rfl rfl) (.inl ⟨hq,rfl,rfl⟩) (sub (aJ .nil) aj)
 ·refine(Qr) ?_
  refine oC (Nn kind p1 c1 n1 L1 R1 hR1 hn1 hB1 p2 c2 n2 L2 R2 hR2 hn2 hB2 back hbk h2 hk hn1s true (decide_eq_true omg).symm) V.V8 rfl (aJ .nil) rfl<|(Qg) ?_
  refine mL n1 n1 (U5) rfl rfl V.bT V.z5 rfl rfl rfl rfl omg omg rfl rfl ?_
  intro kM
  refine(Qy) ?_
  rw[show List.replicate n1 U5.d=aa.jY kind L1 L2 back 0 from by rw[aa.VJ,hn1]]
  refine cF (fun(i:Nat)=>[(0,I6 kind),(2,.slice p2 n2 c2),(3,I6 (back:Int)),(10,.slice (soz kM) n1 n1),(22,.slice p1 n1 c1),(23,I6 (n1:Int)),(24,I6 (i:Int))]) (fun(i:Nat)=>Row U5 (soz kM) n1 n1 (aa.jY kind L1 L2 back i)::R1::R2::F) (fun(i:Nat)=>i≤n1) (fun(i:Nat)=>n1-i) (i1 (0) ?_ (fF (bb ln)) (sub (dV .nil) aj)) ?_
  ·exact Nat.zero_le _
  intro i
  rintro hi
  refine(Qs) ?_
  refine av rfl (fun h25=>?_) (fun h25=>?_)
  ·refine(Qr) ?_
   refine oV (xI V.bT (by exact bK hR1 cX))<|oV (xL V.s5 (by exact bK hR1 cX))<|(Qq) ?_
   refine oC (T1 kind (soz kM) n1 n1 (aa.jY kind L1 L2 back i) (Row U5 (soz kM) n1 n1 (aa.jY kind L1 L2 back i)) (fun _ _ hh=>hh.rd) (by rw[aa.KK omg];exact hn1) aa.LZ p2 c2 n2 L2 R2 hR2 hn2 hB2 i back omg hbk.2) V.ach rfl (an (.cons ar .nil)) rfl ?_
   rw[aa.Ra omg]
   refine oV (dw (r:=(aa.iY kind L1 L2 back (aa.gq kind L1 L2 back i) i)) rfl rfl ((aa.gU _).trans (aa.CQ rfl rfl)))<|oV (xI V.bT (own ay))<|cC (mK (c:=(U5)) (_) V.s5 rfl rfl rfl (by exact ft) omg omg rfl rfl)<|(Da) ?_
   rw[show List.set (aa.jY kind L1 L2 back i) ((i:Int)).toNat (aa.iY kind L1 L2 back (aa.gq kind L1 L2 back i) i)=aa.jY kind L1 L2 back (i+1) from aa.Ks omg]
   exact j1 (i+1) ⟨omg,omg⟩ (fF (bb ln)) (sub (an (.cons ar (.cons dJ .nil))) aj)
  ·refine(Qf) ?_
   obtain rfl:i=n1:=omg
   rw[show aa.jY kind L1 L2 back i=aa.ee kind L1 L2 back from hn1▸aa.KT kind L1 L2 back]
   refine(Qr) ?_
   exact af (bR rfl rfl) (.inr ⟨omg,_,_,rfl,rfl⟩) (sub (dV .nil) aj)

def WW(kind:Int)(p1:Option Addr)(c1 n1:Nat)(L1:List Int)(R1:ad)(hR1:∀w0 h,R1 w0 h→aE U5 p1 n1 L1 w0 h)(hn1:L1.length=n1)(hB1:ag.aq L1)(p2:Option Addr)(c2 n2:Nat)(L2:List Int)(R2:ad)(hR2:∀w0 h,R2 w0 h→aE U5 p2 n2 L2 w0 h)(hn2:L2.length=n2)(hB2:ag.aq L2)(back:Nat)(hbk:1≤back∧back≤8)(h2:n2=0∨n2=n1)(hk:0≤kind)(hn1s:n1<500000000):aA Tryz.prog 51 [I6 kind,.slice p1 n1 c1,.slice p2 n2 c2,I6 (back:Int)] [R1,R2] (aF fun v G=>(4<kind∧v=.tuple #[.slice none 0 0,.bool false]∧G=[R1,R2])∨(¬4<kind∧∃q cq,v=.tuple #[.slice q n1 cq,.bool true]∧G=[Row U5 q n1 cq (aa.ee kind L1 L2 back),R1,R2])):=by
 refine ao [(0,_),(1,_),(2,_),(3,_)] Tryz.func51 rfl Tryz.ntmps51 rfl rfl ?_
 intro w0 F
 refine(l6) ?_
 refine gv (fun(u:Unit)=>[(0,I6 kind),(1,.slice p1 n1 c1),(2,.slice p2 n2 c2),(3,I6 (back:Int))]) (fun(u:Unit)=>R1::R2::F) (fun(u:Unit)=>¬4<kind) ?_ ?_
 ·rcases((by by_cases h:4<kind;exact .inl h;exact(Nat.eq_zero_or_pos n2).elim (fun q=>.inr (.inl ⟨h,q⟩)) (fun q=>.inr (.inr ⟨h,q⟩)):4<kind∨(¬4<kind∧n2=0)∨(¬4<kind∧0<n2))) with hq|⟨hq,hz⟩|⟨hq,hz⟩
  ·refine(nT) ?_
   refine(QL) ?_
   refine(Q9) ?_
   refine(Q0) ?_
   refine(Qp) ?_
   refine rO TT 32 rfl ?_
   exact af (bR rfl rfl) (.inl ⟨hq,rfl,rfl⟩) (sub (aJ .nil) aj)
  ·refine(nT) ?_
   refine(QL) ?_
   refine(Q9) ?_
   refine(Q0) ?_
   refine(Qo) ?_
   refine(Qc) ?_
   refine(Q0) ?_
   refine(QL) ?_
   refine(Qc) ?_
   refine(Q0) ?_
   refine(Qo) ?_
   refine(Q7) ?_
   refine(Q0) ?_
   refine(Qo) ?_
   refine(Qy) ?_
   refine j1 (()) ?_ (cK ln) (sub (aJ .nil) aj)
   exact hq
  ·refine(nT) ?_
   refine(QL) ?_
   refine(Q9) ?_
   refine(Q0) ?_
   refine(Qo) ?_
   refine(Qc) ?_
   refine(Q0) ?_
   refine(QL) ?_
   refine(Qc) ?_
   refine(Q0) ?_
   refine(Qo) ?_
   refine(Q7) ?_
   refine(Q0) ?_
   refine(Qp) ?_
   refine(Q6) ?_
   refine(Q0) ?_
   refine(QM) ?_
   refine(Q1) ?_
   refine j1 (()) ?_ (cK ln) (sub (aJ .nil) aj)
   exact hq
 ·intro u
  rintro hq
  refine(Q3)<|(Oi) ?_
  refine ei (c:=(U5)) V.bT V.z5 rfl rfl rfl rfl dJ (by exact bK hR1 cX) omg rfl ?_
  intro p39 c39
  refine(Qg) ?_
  rw[List.nil_append,Nat.zero_add,show Row U5 p39 n1 c39 L1=Row U5 p39 n1 c39 (aa.hH kind L1 L2 back 0) from by rw[aa.R4]]
  refine cF (fun(i:Nat)=>[(0,I6 kind),(2,.slice p2 n2 c2),(3,I6 (back:Int)),(10,.slice p39 n1 c39),(11,I6 (i:Int))]) (fun(i:Nat)=>Row U5 p39 n1 c39 (aa.hH kind L1 L2 back i)::R1::R2::F) (fun(i:Nat)=>i≤n1) (fun(i:Nat)=>n1-i) (i1 (0) ?_ (bb ln) (sub (dV .nil) aj)) ?_
  ·exact Nat.zero_le _
  intro i
  rintro hi
  refine(pe) ?_
  refine av rfl (fun h43=>?_) (fun h43=>?_)
  ·refine(Q4) ?_
   refine wN [pz 0 [] [10],pz 0 [] [11],pz 0 [] [10],pz 0 [] [11],pz 12 [2,3] [],pz 28 [4] [],pz 0 [] [0],pz 0 [] [10],pz 0 [] [2],pz 0 [] [11],pz 0 [] [3],pz 1984 [6,7,8,9,10] [],pz 4092 [5,11] [],pz 8191 [0,1] [],pz 16383 [13,12] []] [⟨fun y=>Row U5 p39 n1 c39 (aa.hH kind L1 L2 back i),none,some 14,[4,5,11,13]⟩,⟨fun y=>R1,none,none,[]⟩,⟨fun y=>R2,none,none,[11]⟩,⟨fun y=>Row U5 p39 n1 c39 ((aa.hH kind L1 L2 back i).set (i:Int).toNat (aa.iY kind L1 L2 back (aa.gq kind L1 L2 back i) i)),some 14,none,[]⟩] F V.mixed ?_
   iterate 4 refine nM ?_
   refine(Ia)<|(Ho) ?_
   iterate 5 refine nM ?_
   refine nE (fun y FF hA=>aO (Post:=[Row U5 p39 n1 c39 (aa.hH kind L1 L2 back i),R2]) (Tx kind p39 c39 n1 (aa.hH kind L1 L2 back i) (Row U5 p39 n1 c39 (aa.hH kind L1 L2 back i)) (fun _ _ hh=>hh.rd) (by rw[aa.Ke omg];exact hn1) (aa.JP hB1) p2 c2 n2 L2 R2 hR2 hn2 hB2 i back omg hbk.2 omg omg) V.yF rfl (aJ .nil) (fun v G h=>by rcases h with⟨rfl,rfl⟩;exact⟨by rw[aa.PV omg],.refl _⟩))<|nV (fun y hA L=>dw (r:=(aa.iY kind L1 L2 back (aa.gq kind L1 L2 back i) i)) rfl rfl ((aa.gU _).trans (aa.CQ (aa.PU omg) rfl)))<|(Ia) ?_
   refine nE (fun y FF hA=>dm (mK (c:=(U5)) (_) V.s5 rfl rfl rfl (by exact ft) omg omg rfl rfl) ⟨rfl,.refl _⟩)<|(Qi) ?_
   intro y hA
   clear hA
   show ks _ _ _ _ (R1::R2::Row U5 p39 n1 c39 ((aa.hH kind L1 L2 back i).set (i:Int).toNat (aa.iY kind L1 L2 back (aa.gq kind L1 L2 back i) i))::F)
   refine(uR)<|(sF)<|(tu) ?_
   rw[show List.set (aa.hH kind L1 L2 back i) ((i:Int)).toNat (aa.iY kind L1 L2 back (aa.gq kind L1 L2 back i) i)=aa.hH kind L1 L2 back (i+1) from aa.JM omg]
   exact j1 (i+1) ⟨omg,omg⟩ (bb ln) (sub (.cons aL (aJ .nil)) aj)
  ·refine(Qf) ?_
   obtain rfl:i=n1:=omg
   rw[show aa.hH kind L1 L2 back i=aa.ee kind L1 L2 back from hn1▸aa.KP kind L1 L2 back]
   refine(Qr) ?_
   exact af (bR rfl rfl) (.inr ⟨hq,_,_,rfl,rfl⟩) (sub (dV .nil) aj)
end Go.Proofs.YtmaiakpjgomnpaaGreat
namespace Go.Proofs.YtmaiakpjgomnpaaGreat
open Go.Sl
def V.V4:az Tryz.prog 120=true:=by kernel_rfl
def V.UG:az Tryz.prog 121=true:=by kernel_rfl
def V.U6:az Tryz.prog 151=true:=by kernel_rfl
def V.acH:az Tryz.prog 152=true:=by kernel_rfl
def V.Sb:bo Tryz.prog 145 0=some 0:=by kernel_rfl
def V.adi:bo Tryz.prog 145 1=some 1:=by kernel_rfl
def V.ads:bo Tryz.prog 145 2=some 2:=by kernel_rfl
def V.adb:bo Tryz.prog 145 3=some 3:=by kernel_rfl
end Go.Proofs.YtmaiakpjgomnpaaGreat
namespace Go.Proofs.YtmaiakpjgomnpaaGreat
open Go.Sl 
attribute [local irreducible] ag.aq aa.bD aa.up aa.cL aa.gn aa.iE aa.deep aa.parts HW aa.bd aa.gB aa.aM aa.oS aa.ky aa.fm aa.fP aa.ez aa.ko aa.j6 aa.ee aa.eC
def WJ(h:aa.Hd)(bf:Nat)(pp:Option Addr)(pl:List Int)(cp:Nat)(pt:Option Addr)(tr:List Int)(ct:Nat)(pd:Option Addr)(nd cd:Nat)(pk:Option Addr)(ck:Nat)(R:ad)(hP:∀w0 h,R w0 h→aE U5 pp pl.length pl w0 h)(hT:∀w0 h,R w0 h→aE U5 pt tr.length tr w0 h)(hcp:pl.length≤cp)(hB:ag.aq pl)(hBt:ag.aq tr)(hpl:pl.length<500000000)(htl:tr.length<500000000)(pv:Option Addr)(cv:Nat)(v:List Int)(Rk Rv:ad)(hRk:∀w0 h_,Rk w0 h_→aE (aK 3 .i64) pk (aa.bd h tr).length (aa.bd h tr) w0 h_)(hRv:∀w0 h_,Rv w0 h_→aE (aK 3 .i64) pv v.length v w0 h_)(hf:aa.fm ⟨h,pl,tr⟩)(hvl:v.length=(aa.parts h.ak).toNat)(hvx:∀x∈v,0≤x∧x<2^h.dep.toNat)(nv:Nat)(hnv:v.length=nv)(hk2:v.getD 0 0<100000000)(hpx:aa.gB ⟨h,pl,tr⟩ v=none):aA Tryz.prog 151 [.pointer (soz bf),.slice pv nv cv] [ai bf 90 (hVz h.w h.h h.dep h.ak h.aV pp pl.length cp pt tr.length ct [.slice pd nd cd,.slice pk (aa.bd h tr).length ck]),Rk,Rv,R] (aF fun e G=>e=.tuple #[.agg #[.int .u16 0,.int .u16 0,.int .u16 0,.int .u16 0],.bool false]∧G=[ai bf 90 (hVz h.w h.h h.dep h.ak h.aV pp pl.length cp pt tr.length ct [.slice pd nd cd,.slice pk (aa.bd h tr).length ck]),Rk,Rv,R]):=by
 subst hnv
 exact J0 h bf pp pl cp pt tr ct pd nd cd pk ck R hP hT hcp hB hBt hpl htl pv cv v Rk Rv hRk hRv hf hvl hvx hk2 hpx
def VT(h:aa.Hd)(bf:Nat)(pp:Option Addr)(pl:List Int)(cp:Nat)(pt:Option Addr)(tr:List Int)(ct:Nat)(pd:Option Addr)(nd cd:Nat)(pk:Option Addr)(ck:Nat)(R:ad)(hP:∀w0 h,R w0 h→aE U5 pp pl.length pl w0 h)(hT:∀w0 h,R w0 h→aE U5 pt tr.length tr w0 h)(hcp:pl.length≤cp)(hB:ag.aq pl)(hBt:ag.aq tr)(hpl:pl.length<500000000)(htl:tr.length<500000000)(pv:Option Addr)(cv:Nat)(v:List Int)(Rk Rv:ad)(hRk:∀w0 h_,Rk w0 h_→aE (aK 3 .i64) pk (aa.bd h tr).length (aa.bd h tr) w0 h_)(hRv:∀w0 h_,Rv w0 h_→aE (aK 3 .i64) pv v.length v w0 h_)(hf:aa.fm ⟨h,pl,tr⟩)(hvl:v.length=(aa.parts h.ak).toNat)(hvx:∀x∈v,0≤x∧x<2^h.dep.toNat)(nv:Nat)(hnv:v.length=nv)(hk2:v.getD 0 0<100000000)(c0 c1 c2 c3:Int)(hpx:aa.gB ⟨h,pl,tr⟩ v=some [c0,c1,c2,c3]):aA Tryz.prog 151 [.pointer (soz bf),.slice pv nv cv] [ai bf 90 (hVz h.w h.h h.dep h.ak h.aV pp pl.length cp pt tr.length ct [.slice pd nd cd,.slice pk (aa.bd h tr).length ck]),Rk,Rv,R] (aF fun e G=>e=.tuple #[.agg #[.int .u16 c0,.int .u16 c1,.int .u16 c2,.int .u16 c3],.bool true]∧G=[ai bf 90 (hVz h.w h.h h.dep h.ak h.aV pp pl.length cp pt tr.length ct [.slice pd nd cd,.slice pk (aa.bd h tr).length ck]),Rk,Rv,R]):=by
 subst hnv
 exact JY h bf pp pl cp pt tr ct pd nd cd pk ck R hP hT hcp hB hBt hpl htl pv cv v Rk Rv hRk hRv hf hvl hvx hk2 c0 c1 c2 c3 hpx
def N5{h:aa.Hd}{row:List Int}{i:Nat}(hd:aa.jz h.dep)(hp:1≤aa.parts h.ak):(aa.aM h row i).getD 0 0<100000000:=by
 have h1:=aa.lS (h:=h) (row:=row) (x:=i) _ (aa.fN (l:=aa.aM h row i) (i:=0) (by rw[aa.js];omega))
 have:=aa.lQ hd
 omega

def FM(h:aa.Hd)(bf:Nat)(pp:Option Addr)(pl:List Int)(cp:Nat)(pt:Option Addr)(tr:List Int)(ct:Nat)(pd:Option Addr)(nd cd:Nat)(pk:Option Addr)(ck:Nat)(R:ad)(hP:∀w0 h,R w0 h→aE U5 pp pl.length pl w0 h)(hT:∀w0 h,R w0 h→aE U5 pt tr.length tr w0 h)(hcp:pl.length≤cp)(hB:ag.aq pl)(hBt:ag.aq tr)(hpl:pl.length<500000000)(htl:tr.length<500000000)(Rk:ad)(hRk:∀w0 h_,Rk w0 h_→aE (aK 3 .i64) pk (aa.bd h tr).length (aa.bd h tr) w0 h_)(hf:aa.fm ⟨h,pl,tr⟩)(hs:aa.bD h.w h.h=0)(q:Option Addr)(n c:Nat)(hn:(n:Int)=4*h.w*h.h)(hcap:n≤c)(cN:List Int)(hpx0:cN.length=n)(p:aa.Ps)(hp:aa.j6 p h.w h.h)(yy:Nat)(hyy:(yy:Int)<p.h)(pb:Option Addr)(cb:Nat)(row:List Int)(hrl:row.length<500000000)(hBr:ag.aq row)(Rb:ad)(hRb:∀w0 h,Rb w0 h→aE U5 pb row.length row w0 h)(hbits:∀i:Nat,(i:Int)<p.w→i*(aa.parts h.ak).toNat*h.dep.toNat+(aa.parts h.ak).toNat*h.dep.toNat≤8*row.length):aA Tryz.prog 121 [.pointer (soz bf),.agg #[I6 h.w,I6 h.h,.slice q n c],.agg #[I6 p.x,I6 p.y,I6 p.dx,I6 p.dy,I6 p.w,I6 p.h],I6 (yy:Int),.slice pb row.length cb] [ai bf 90 (hVz h.w h.h h.dep h.ak h.aV pp pl.length cp pt tr.length ct [.slice pd nd cd,.slice pk (aa.bd h tr).length ck]),Row (aK 62 .u16) q n c cN,Rk,Rb,R] (aF fun v G=>(aa.fP ⟨h,pl,tr⟩ p (yy:Int) row p.w.toNat 0 cN=none∧v=.bool false∧∃P,P.length=n∧G=[ai bf 90 (hVz h.w h.h h.dep h.ak h.aV pp pl.length cp pt tr.length ct [.slice pd nd cd,.slice pk (aa.bd h tr).length ck]),Row (aK 62 .u16) q n c P,Rk,Rb,R])∨∃P,aa.fP ⟨h,pl,tr⟩ p (yy:Int) row p.w.toNat 0 cN=some P∧P.length=n∧v=.bool true∧G=[ai bf 90 (hVz h.w h.h h.dep h.ak h.aV pp pl.length cp pt tr.length ct [.slice pd nd cd,.slice pk (aa.bd h tr).length ck]),Row (aK 62 .u16) q n c P,Rk,Rb,R]):=by
 refine ao [(0,_),(1,_),(2,_),(3,_),(4,_)] Tryz.func121 rfl Tryz.ntmps121 rfl rfl ?_
 intro w0 F
 have hde:aa.deep h.ak h.dep:=by unfold aa.fm at hf;exact hf.1
 have hpc:=aa.fJ hde
 have hdi:=aa.iz (aa.fO hde)
 obtain⟨N,hN⟩:∃N,N=(aa.parts h.ak).toNat:=⟨_,rfl⟩
 obtain⟨D,hD⟩:∃D,D=h.dep.toNat:=⟨_,rfl⟩
 have hN2:aa.parts h.ak=(N:Int):=omg
 have hD2:h.dep=(D:Int):=omg
 have hpo:=hp
 unfold aa.j6 aa.jt at hpo
 obtain⟨⟨hx0,hx1,hy0,hy1,hdx,hdy,hw0,hw1,hh0,hh1⟩,hix,hiy⟩:=hpo
 have hsd:=aa.jj hs
 obtain⟨RES,hRES⟩:∃r,r=aa.fP ⟨h,pl,tr⟩ p (yy:Int) row p.w.toNat 0 cN:=⟨_,rfl⟩
 rw[←hRES]
 refine(uE) ?_
 intro b6
 refine jg rfl (cs:=[_,_,_,_,_,_]) rfl rfl ?_
 intro b7
 refine(Q1) ?_
 refine aQ (Bx pb cb row Rb hRb hrl) V.Oa rfl (.cons jX .nil) rfl ?_
 rintro _ _ ⟨bx,rfl,rfl⟩
 refine(Qn) ?_
 refine oV (aB V.s3 rfl ic rfl)<|oC (gV h.ak) V.pg rfl .nil rfl ?_
 rw[hN2]
 refine mL N N (I3) rfl rfl V.cy V.z3 rfl rfl rfl rfl omg omg rfl rfl ?_
 intro b25
 refine(Qd)<|(Qt)<|(Q7) ?_
 rw[show HW bx row 0 [] 0=HW bx row (0*N*D) [] 0 from by rw[Nat.zero_mul,Nat.zero_mul]]
 rw[show List.replicate N (aK 3 .i64).d=List.replicate N 0 from rfl]
 refine dP (fun(i:Nat) (Vo:List Int) (P:List Int)=>[(0,.pointer (soz bf)),(3,I6 (yy:Int)),(6,.pointer (soz b6)),(7,.pointer (soz b7)),(11,.pointer (soz bx)),(12,.slice (soz b25) N N),(27,I6 p.w),(28,I6 (i:Int))]) (fun(i:Nat) (Vo:List Int) (P:List Int)=>HW bx row (i*N*D) [] 0::Row (aK 3 .i64) (soz b25) N N Vo::ai b6 26 [I6 h.w,I6 h.h,.slice q n c]::ai b7 145 [I6 p.x,I6 p.y,I6 p.dx,I6 p.dy,I6 p.w,I6 p.h]::ai bf 90 (hVz h.w h.h h.dep h.ak h.aV pp pl.length cp pt tr.length ct [.slice pd nd cd,.slice pk (aa.bd h tr).length ck])::Row (aK 62 .u16) q n c P::Rk::Rb::R::F) (fun(i:Nat) (Vo:List Int) (P:List Int)=>(i:Int)≤p.w∧Vo.length=N∧P.length=n∧aa.fP ⟨h,pl,tr⟩ p (yy:Int) row (p.w.toNat-i) i P=RES) (fun(i:Nat) (Vo:List Int) (P:List Int)=>p.w.toNat-i) (i3 (0) (List.replicate N 0) (cN) ?_ (eo (bb ln)) (sub (.cons ar (an (.cons aL (.cons ar (.cons ar (.cons ar (.cons ar (.cons dJ (.cons dJ .nil))))))))) aj)) ?_
 ·exact⟨omg,List.length_replicate,hpx0,hRES.symm⟩
 intro i Vo P
 rintro⟨hi,hVl,hPl,hres⟩
 have hSl:(aa.aM h row i).length=N:=by rw[aa.js,hN]
 refine(Qs) ?_
 refine av rfl (fun h29=>?_) (fun h29=>?_)
 ·refine rC TT 19 rfl ?_
  rw[show HW bx row (i*N*D) [] 0=HW bx row (i*N*D+0*D) [] 0 from by rw[Nat.zero_mul,Nat.add_zero],show Row (aK 3 .i64) (soz b25) N N Vo=Row (aK 3 .i64) (soz b25) N N (aa.vN (aa.aM h row i) Vo 0) from by rw[aa.abI]]
  refine cF (fun(k:Nat)=>[(0,.pointer (soz bf)),(3,I6 (yy:Int)),(6,.pointer (soz b6)),(7,.pointer (soz b7)),(11,.pointer (soz bx)),(12,.slice (soz b25) N N),(13,I6 (i:Int)),(27,I6 p.w),(28,I6 (i:Int)),(32,I6 (N:Int)),(33,I6 (k:Int))]) (fun(k:Nat)=>HW bx row (i*N*D+k*D) [] 0::Row (aK 3 .i64) (soz b25) N N (aa.vN (aa.aM h row i) Vo k)::ai b6 26 [I6 h.w,I6 h.h,.slice q n c]::ai b7 145 [I6 p.x,I6 p.y,I6 p.dx,I6 p.dy,I6 p.w,I6 p.h]::ai bf 90 (hVz h.w h.h h.dep h.ak h.aV pp pl.length cp pt tr.length ct [.slice pd nd cd,.slice pk (aa.bd h tr).length ck])::Row (aK 62 .u16) q n c P::Rk::Rb::R::F) (fun(k:Nat)=>k≤N) (fun(k:Nat)=>N-k) (i1 (0) ?_ (iw (bb (bb ln))) (sub (jm (iV .nil)) aj)) ?_
  ·exact Nat.zero_le _
  intro k
  rintro hk
  refine(Qs) ?_
  refine av rfl (fun h34=>?_) (fun h34=>?_)
  ·refine(QN) ?_
   have hkD:k*D+D≤N*D:=by have:=Nat.mul_le_mul_right D (show k+1≤N by omega);rwa [Nat.add_mul,Nat.one_mul] at this
   have hbi:i*N*D+N*D≤8*row.length:=by rw[hN,hD];exact hbits i omg
   have hvl:=aa.S3 (S:=(aa.aM h row i)) (old:=Vo) (k:=k) omg omg
   refine(pB) ?_
   refine oV (cn (v:=I6 (D:Int)) (aB V.s3 rfl ic rfl) (congrArg (Value.int .i64) hD2))<|oC (kR bx row (i*N*D+k*D) [] 0 D hrl hBr omg omg) V.vQ rfl (an .nil) rfl<|oV (xI V.cy (own cX))<|(Q72)<|(Da) ?_
   rw[aa.acK hN hD hVl omg,show i*N*D+k*D+D=i*N*D+(k+1)*D from by rw[Nat.add_mul,Nat.one_mul,Nat.add_assoc]]
   exact j1 (k+1) ⟨omg,omg⟩ (iw (bb (bb ln))) (sub (jm (iV .nil)) aj)
  ·refine(Qb) ?_
   rcases(aa.yl ⟨h,pl,tr⟩ (aa.aM h row i)) with hpx|⟨c0,c1,c2,c3,hpx⟩
   ·refine(Qa) ?_
    obtain rfl:N=k:=omg
    rw[show aa.vN (aa.aM h row i) Vo N=(aa.aM h row i) from hSl▸aa.T5 omg]
    refine(Q3) ?_
    refine oC (WJ h bf pp pl cp pt tr ct pd nd cd pk ck R hP hT hcp hB hBt hpl htl (soz b25) N (aa.aM h row i) Rk (Row (aK 3 .i64) (soz b25) N N (aa.aM h row i)) hRk (fun _ _ hh=>by rw[hSl];exact hh.rd) hf (aa.js h row i) aa.lS N hSl (N5 (aa.fO hde) omg) hpx) V.U6 rfl (.cons gW (.cons jX (.cons ar (.cons jX .nil)))) rfl<|(Qc)<|(uJ) ?_
    intro iN
    refine(Hi) ?_
    exact rO TT 23 rfl<|af (aw rfl) (.inl ⟨aa.Ih (f:=⟨h,pl,tr⟩) omg hpx hres,rfl,P,hPl,rfl⟩) (sub (.cons ar (.cons IG (.cons ar (.cons nQ (.cons aL .nil))))) NI)
   ·refine(Qa) ?_
    obtain rfl:N=k:=omg
    rw[show aa.vN (aa.aM h row i) Vo N=(aa.aM h row i) from hSl▸aa.T5 omg]
    refine(Q3) ?_
    refine oC (VT h bf pp pl cp pt tr ct pd nd cd pk ck R hP hT hcp hB hBt hpl htl (soz b25) N (aa.aM h row i) Rk (Row (aK 3 .i64) (soz b25) N N (aa.aM h row i)) hRk (fun _ _ hh=>by rw[hSl];exact hh.rd) hf (aa.js h row i) aa.lS N hSl (N5 (aa.fO hde) omg) c0 c1 c2 c3 hpx) V.U6 rfl (.cons gW (.cons jX (.cons ar (.cons jX .nil)))) rfl<|(Qc)<|(uJ) ?_
    intro iN
    refine(Hi)<|(Qq) ?_
    have hnn:0≤(i:Int)*p.dx:=Int.mul_nonneg omg omg
    have hnm:0≤(yy:Int)*p.dy:=Int.mul_nonneg omg omg
    have hxx:=hix i omg omg
    have hyv:=hiy yy omg omg
    have hpi:=aa.qc (w:=h.w) (h:=h.h) (x:=(p.x+((i:Int)*p.dx))) (y:=(p.y+((yy:Int)*p.dy))) ⟨omg,omg⟩ ⟨omg,omg⟩
    have h44:4*h.w*h.h=4*(h.w*h.h):=Int.mul_assoc _ _ _
    refine(QF) ?_
    refine oV (bU V.ff rfl HY (vs:=[_,_,_]) rfl rfl)<|oV (bP V.Sb rfl)<|(NS)<|(Q9)<|(NS)<|(xl)<|(NS)<|(Q9)<|(NS)<|(o7) ?_
    refine oV (bU V.jQ rfl ay (vs:=[_,_,_,_]) rfl rfl)<|oC (X9 h.w h.h hs q n c hn hcap P (p.x+((i:Int)*p.dx)) (p.y+((yy:Int)*p.dy)) ⟨omg,omg⟩ ⟨omg,omg⟩ c0 c1 c2 c3) V.acH rfl (.cons Nd .nil) rfl<|(Da) ?_
    rw[show i*N*D+N*D=(i+1)*N*D from by rw[Nat.add_mul,Nat.add_mul,Nat.one_mul]]
    exact j3 (i+1) (aa.aM h row i) (aa.ko h.w P (p.x+((i:Int)*p.dx)) (p.y+((yy:Int)*p.dy)) [c0,c1,c2,c3]) ⟨⟨omg,hSl,by rw[aa.uS rfl omg];exact hPl,aa.H6 (f:=⟨h,pl,tr⟩) omg hpx hres⟩,omg⟩ (eo (bb ln)) (sub (.cons nQ (.cons gW (.cons jX (.cons jX (.cons aL (an (.cons ar (.cons aL (.cons ar .nil))))))))) bg)
 ·refine(lW) ?_
  exact af (aw rfl) (.inr ⟨P,aa.Gq (f:=⟨h,pl,tr⟩) omg hres,hPl,rfl,rfl⟩) (sub (.cons gW (.cons gW (.cons gW (.cons gW (.cons gW .nil))))) gF)
def OL(kind:Int)(p1:Option Addr)(c1 n1:Nat)(L1:List Int)(R1:ad)(hR1:∀w0 h,R1 w0 h→aE U5 p1 n1 L1 w0 h)(hn1:L1.length=n1)(hB1:ag.aq L1)(p2:Option Addr)(c2 n2:Nat)(L2:List Int)(R2:ad)(hR2:∀w0 h,R2 w0 h→aE U5 p2 n2 L2 w0 h)(hn2:L2.length=n2)(hB2:ag.aq L2)(back:Nat)(hbk:1≤back∧back≤8)(h2:n2=0∨n2=n1)(hk:0≤kind)(hn1s:n1<500000000)(hq:4<kind):aA Tryz.prog 120 [I6 kind,.slice p1 n1 c1,.slice p2 n2 c2,I6 (back:Int)] [R1,R2] (aF fun v G=>v=.tuple #[.slice none 0 0,.bool false]∧G=[R1,R2]):=by
 refine(ZY) ?_
 rintro e2 G ⟨v,rfl,(⟨_,rfl,rfl⟩|⟨h,_⟩)⟩
 ·exact⟨_,rfl,rfl,rfl⟩
 ·exact absurd hq h
def OD(kind:Int)(p1:Option Addr)(c1 n1:Nat)(L1:List Int)(R1:ad)(hR1:∀w0 h,R1 w0 h→aE U5 p1 n1 L1 w0 h)(hn1:L1.length=n1)(hB1:ag.aq L1)(p2:Option Addr)(c2 n2:Nat)(L2:List Int)(R2:ad)(hR2:∀w0 h,R2 w0 h→aE U5 p2 n2 L2 w0 h)(hn2:L2.length=n2)(hB2:ag.aq L2)(back:Nat)(hbk:1≤back∧back≤8)(h2:n2=0∨n2=n1)(hk:0≤kind)(hn1s:n1<500000000)(hq:¬4<kind):aA Tryz.prog 120 [I6 kind,.slice p1 n1 c1,.slice p2 n2 c2,I6 (back:Int)] [R1,R2] (aF fun v G=>∃a:Option Addr×Nat,v=.tuple #[.slice a.1 n1 a.2,.bool true]∧G=[Row U5 a.1 n1 a.2 (aa.ee kind L1 L2 back),R1,R2]):=by
 refine(ZY) ?_
 rintro e2 G ⟨v,rfl,(⟨h,_⟩|⟨_,q,cq,rfl,rfl⟩)⟩
 ·exact absurd h hq
 ·exact⟨_,rfl,(q,cq),rfl,rfl⟩
def VZ(h:aa.Hd)(bf:Nat)(pp:Option Addr)(pl:List Int)(cp:Nat)(pt:Option Addr)(tr:List Int)(ct:Nat)(pd:Option Addr)(nd cd:Nat)(pk:Option Addr)(ck:Nat)(R:ad)(hP:∀w0 h,R w0 h→aE U5 pp pl.length pl w0 h)(hT:∀w0 h,R w0 h→aE U5 pt tr.length tr w0 h)(hcp:pl.length≤cp)(hB:ag.aq pl)(hBt:ag.aq tr)(hpl:pl.length<500000000)(htl:tr.length<500000000)(Rk:ad)(hRk:∀w0 h_,Rk w0 h_→aE (aK 3 .i64) pk (aa.bd h tr).length (aa.bd h tr) w0 h_)(hf:aa.fm ⟨h,pl,tr⟩)(hs:aa.bD h.w h.h=0)(q:Option Addr)(n c:Nat)(hn:(n:Int)=4*h.w*h.h)(hcap:n≤c)(cN:List Int)(hpx0:cN.length=n)(p:aa.Ps)(hp:aa.j6 p h.w h.h)(yy:Nat)(hyy:(yy:Int)<p.h)(pb:Option Addr)(cb:Nat)(row:List Int)(hrl:row.length<500000000)(hBr:ag.aq row)(Rb:ad)(hRb:∀w0 h,Rb w0 h→aE U5 pb row.length row w0 h)(hbits:∀i:Nat,(i:Int)<p.w→i*(aa.parts h.ak).toNat*h.dep.toNat+(aa.parts h.ak).toNat*h.dep.toNat≤8*row.length)(nl:Nat)(hnl:row.length=nl)(hr:aa.fP ⟨h,pl,tr⟩ p (yy:Int) row p.w.toNat 0 cN=none):aA Tryz.prog 121 [.pointer (soz bf),.agg #[I6 h.w,I6 h.h,.slice q n c],.agg #[I6 p.x,I6 p.y,I6 p.dx,I6 p.dy,I6 p.w,I6 p.h],I6 (yy:Int),.slice pb nl cb] [ai bf 90 (hVz h.w h.h h.dep h.ak h.aV pp pl.length cp pt tr.length ct [.slice pd nd cd,.slice pk (aa.bd h tr).length ck]),Row (aK 62 .u16) q n c cN,Rk,Rb,R] (aF fun v G=>v=.bool false∧∃P,P.length=n∧G=[ai bf 90 (hVz h.w h.h h.dep h.ak h.aV pp pl.length cp pt tr.length ct [.slice pd nd cd,.slice pk (aa.bd h tr).length ck]),Row (aK 62 .u16) q n c P,Rk,Rb,R]):=by
 subst hnl
 refine(FM h bf pp pl cp pt tr ct pd nd cd pk ck R hP hT hcp hB hBt hpl htl Rk hRk hf hs q n c hn hcap cN hpx0 p hp yy hyy pb cb row hrl hBr Rb hRb hbits).mono ?_
 rintro e2 G ⟨v,rfl,(⟨_,rfl,P,h1,rfl⟩|⟨P,h,_⟩)⟩
 ·exact⟨_,rfl,rfl,P,h1,rfl⟩
 ·rw[hr] at h;cases h
def Se(h:aa.Hd)(bf:Nat)(pp:Option Addr)(pl:List Int)(cp:Nat)(pt:Option Addr)(tr:List Int)(ct:Nat)(pd:Option Addr)(nd cd:Nat)(pk:Option Addr)(ck:Nat)(R:ad)(hP:∀w0 h,R w0 h→aE U5 pp pl.length pl w0 h)(hT:∀w0 h,R w0 h→aE U5 pt tr.length tr w0 h)(hcp:pl.length≤cp)(hB:ag.aq pl)(hBt:ag.aq tr)(hpl:pl.length<500000000)(htl:tr.length<500000000)(Rk:ad)(hRk:∀w0 h_,Rk w0 h_→aE (aK 3 .i64) pk (aa.bd h tr).length (aa.bd h tr) w0 h_)(hf:aa.fm ⟨h,pl,tr⟩)(hs:aa.bD h.w h.h=0)(q:Option Addr)(n c:Nat)(hn:(n:Int)=4*h.w*h.h)(hcap:n≤c)(cN:List Int)(hpx0:cN.length=n)(p:aa.Ps)(hp:aa.j6 p h.w h.h)(yy:Nat)(hyy:(yy:Int)<p.h)(pb:Option Addr)(cb:Nat)(row:List Int)(hrl:row.length<500000000)(hBr:ag.aq row)(Rb:ad)(hRb:∀w0 h,Rb w0 h→aE U5 pb row.length row w0 h)(hbits:∀i:Nat,(i:Int)<p.w→i*(aa.parts h.ak).toNat*h.dep.toNat+(aa.parts h.ak).toNat*h.dep.toNat≤8*row.length)(nl:Nat)(hnl:row.length=nl)(P2:List Int)(hr:aa.fP ⟨h,pl,tr⟩ p (yy:Int) row p.w.toNat 0 cN=some P2):aA Tryz.prog 121 [.pointer (soz bf),.agg #[I6 h.w,I6 h.h,.slice q n c],.agg #[I6 p.x,I6 p.y,I6 p.dx,I6 p.dy,I6 p.w,I6 p.h],I6 (yy:Int),.slice pb nl cb] [ai bf 90 (hVz h.w h.h h.dep h.ak h.aV pp pl.length cp pt tr.length ct [.slice pd nd cd,.slice pk (aa.bd h tr).length ck]),Row (aK 62 .u16) q n c cN,Rk,Rb,R] (aF fun v G=>P2.length=n∧v=.bool true∧G=[ai bf 90 (hVz h.w h.h h.dep h.ak h.aV pp pl.length cp pt tr.length ct [.slice pd nd cd,.slice pk (aa.bd h tr).length ck]),Row (aK 62 .u16) q n c P2,Rk,Rb,R]):=by
 subst hnl
 refine(FM h bf pp pl cp pt tr ct pd nd cd pk ck R hP hT hcp hB hBt hpl htl Rk hRk hf hs q n c hn hcap cN hpx0 p hp yy hyy pb cb row hrl hBr Rb hRb hbits).mono ?_
 rintro e2 G ⟨v,rfl,(⟨h,_⟩|⟨P,h,h1,rfl,rfl⟩)⟩
 ·rw[hr] at h;cases h
 ·rw[hr] at h;cases h;exact⟨_,rfl,h1,rfl,rfl⟩
structure zl where
 a:Nat
 pz:Option Addr
 cz:Nat
 pa:Option Addr
 na:Nat
 ca:Nat
 A:List Int
 P:List Int

def Bw(h:aa.Hd)(bf:Nat)(pp:Option Addr)(pl:List Int)(cp:Nat)(pt:Option Addr)(tr:List Int)(ct:Nat)(pd:Option Addr)(nd cd:Nat)(pk:Option Addr)(ck:Nat)(R:ad)(hP:∀w0 h,R w0 h→aE U5 pp pl.length pl w0 h)(hT:∀w0 h,R w0 h→aE U5 pt tr.length tr w0 h)(hcp:pl.length≤cp)(hB:ag.aq pl)(hBt:ag.aq tr)(hpl:pl.length<500000000)(htl:tr.length<500000000)(Rk:ad)(hRk:∀w0 h_,Rk w0 h_→aE (aK 3 .i64) pk (aa.bd h tr).length (aa.bd h tr) w0 h_)(hf:aa.fm ⟨h,pl,tr⟩)(hs:aa.bD h.w h.h=0)(q:Option Addr)(n c:Nat)(hn:(n:Int)=4*h.w*h.h)(hcap:n≤c)(cN:List Int)(hpx0:cN.length=n)(p:aa.Ps)(hp:aa.j6 p h.w h.h)(Dt:List Int)(hDB:ag.aq Dt)(hDl:Dt.length<500000000)(nr:Nat)(hnr:(nr:Int)=aa.eC p.w (aa.parts h.ak*h.dep))(back:Nat)(hback:(back:Int)=max 1 ((aa.parts h.ak*h.dep)/8))(at0:Nat)(hat:at0+p.h.toNat*(1+nr)≤Dt.length)(pb:Option Addr)(cb:Nat)(Rb:ad)(hRb:∀w0 h,Rb w0 h→aE U5 pb (Dt.length-at0) (Dt.drop at0) w0 h)(hcb:Dt.length-at0≤cb):aA Tryz.prog 86 [.pointer (soz bf),.agg #[I6 h.w,I6 h.h,.slice q n c],.agg #[I6 p.x,I6 p.y,I6 p.dx,I6 p.dy,I6 p.w,I6 p.h],.slice pb (Dt.length-at0) cb] [ai bf 90 (hVz h.w h.h h.dep h.ak h.aV pp pl.length cp pt tr.length ct [.slice pd nd cd,.slice pk (aa.bd h tr).length ck]),Row (aK 62 .u16) q n c cN,Rk,Rb,R] (aF fun v G=>(aa.ez ⟨h,pl,tr⟩ Dt nr back p p.h.toNat 0 at0 [] cN=none∧v=.tuple #[.slice none 0 0,.bool false]∧∃P,P.length=n∧G=[ai bf 90 (hVz h.w h.h h.dep h.ak h.aV pp pl.length cp pt tr.length ct [.slice pd nd cd,.slice pk (aa.bd h tr).length ck]),Row (aK 62 .u16) q n c P,Rk,Rb,R])∨∃at2 P pz cz,aa.ez ⟨h,pl,tr⟩ Dt nr back p p.h.toNat 0 at0 [] cN=some (at2,P)∧P.length=n∧at2=at0+p.h.toNat*(1+nr)∧(∀w0 h,Rb w0 h→aE U5 pz (Dt.length-at2) (Dt.drop at2) w0 h)∧Dt.length-at2≤cz∧v=.tuple #[.slice pz (Dt.length-at2) cz,.bool true]∧G=[ai bf 90 (hVz h.w h.h h.dep h.ak h.aV pp pl.length cp pt tr.length ct [.slice pd nd cd,.slice pk (aa.bd h tr).length ck]),Row (aK 62 .u16) q n c P,Rk,Rb,R]):=by
 refine ao [(0,_),(1,_),(2,_),(3,_)] Tryz.func86 rfl Tryz.ntmps86 rfl rfl ?_
 intro w0 F
 have hde:aa.deep h.ak h.dep:=by unfold aa.fm at hf;exact hf.1
 have hpc:=aa.fJ hde
 have hdi:=aa.iz (aa.fO hde)
 have hpo:=hp
 unfold aa.j6 aa.jt at hpo
 obtain⟨⟨hx0,hx1,hy0,hy1,hdx,hdy,hw0,hw1,hh0,hh1⟩,hix,hiy⟩:=hpo
 have hsd:=aa.jj hs
 have hbits:=aa.l7 hde
 have hbk:1≤back∧back≤8:=omg
 obtain⟨RES,hRES⟩:∃r,r=aa.ez ⟨h,pl,tr⟩ Dt nr back p p.h.toNat 0 at0 [] cN:=⟨_,rfl⟩
 rw[←hRES]
 refine(uE) ?_
 intro b5
 refine jg rfl (cs:=[_,_,_,_,_,_]) rfl rfl ?_
 intro b6
 refine rO TT 5 rfl ?_
 refine wN [pz 0 [] [0],pz 1 [0] [],pz 3 [1] [],pz 7 [2] [],pz 15 [3] [],pz 31 [4] [],pz 0 [] [0],pz 64 [6] [],pz 192 [7] [],pz 448 [8] [],pz 960 [9] [],pz 2047 [5,10] [],pz 4095 [11] []] [⟨fun y=>ai b6 145 [I6 p.x,I6 p.y,I6 p.dx,I6 p.dy,I6 p.w,I6 p.h],none,none,[]⟩,⟨fun y=>ai b5 26 [I6 h.w,I6 h.h,.slice q n c],none,none,[]⟩,⟨fun y=>ai bf 90 (hVz h.w h.h h.dep h.ak h.aV pp pl.length cp pt tr.length ct [.slice pd nd cd,.slice pk (aa.bd h tr).length ck]),none,none,[4,10]⟩,⟨fun y=>Row (aK 62 .u16) q n c cN,none,none,[]⟩,⟨fun y=>Rk,none,none,[]⟩,⟨fun y=>Rb,none,none,[]⟩,⟨fun y=>R,none,none,[]⟩] F V.mixed ?_
 refine nM ?_
 refine nN ?_
 refine nG V.iS ?_
 refine nG V.tL ?_
 refine nR (fun y FF hA=>aB V.s3 rfl ay rfl) ?_
 refine nE (fun y FF hA=>aO (Post:=[]) (gV h.ak) V.pg rfl .nil (fun v G h=>by rcases h with⟨rfl,rfl⟩;exact⟨rfl,.refl _⟩)) ?_
 refine nM ?_
 refine nN ?_
 refine nG V.iS ?_
 refine nG V.zL ?_
 refine nR (fun y FF hA=>aB V.s3 rfl ay rfl) ?_
 refine nV (fun y hA L=>fR (r:=(aa.parts h.ak*h.dep)) rfl rfl wI) ?_
 refine nA ?_
 refine cZ ?_
 intro y hA
 clear hA
 refine bJ<|bW [(0,.pointer (soz bf)),(3,.slice pb (Dt.length-at0) cb),(5,.pointer (soz b5)),(6,.pointer (soz b6)),(10,I6 (aa.parts h.ak*h.dep))] (.cons (d:=0) rfl (.cons (d:=3) rfl (.cons (d:=5) rfl (.cons (d:=6) rfl (.cons (d:=10) rfl (.nil _))))))<|bA (M:=ai b6 145 [I6 p.x,I6 p.y,I6 p.dx,I6 p.dy,I6 p.w,I6 p.h]::ai b5 26 [I6 h.w,I6 h.h,.slice q n c]::ai bf 90 (hVz h.w h.h h.dep h.ak h.aV pp pl.length cp pt tr.length ct [.slice pd nd cd,.slice pk (aa.bd h tr).length ck])::Row (aK 62 .u16) q n c cN::Rk::Rb::R::F) (fun _ _ h=>h)<|(wT)<|(Q8) ?_
 refine oC (Og p.w (aa.parts h.ak*h.dep) ⟨hw0,hw1⟩ ⟨omg,omg⟩) V.Tr rfl .nil rfl ?_
 rw[←hnr]
 refine(Q8)<|(qO) ?_
 refine oV (cn (v:=I6 (back:Int)) (zJ rfl rfl) (congrArg (Value.int .i64) ((aa.Hw _).trans hback.symm)))<|(Qq)<|(Ql)<|(Q7)<|(wc) ?_
 refine gx (fun(yv:Nat) (s:zl)=>[(0,.pointer (soz bf)),(3,.slice s.pz (Dt.length-s.a) s.cz),(5,.pointer (soz b5)),(6,.pointer (soz b6)),(11,I6 (nr:Int)),(12,I6 (back:Int)),(13,.slice s.pa s.na s.ca),(37,I6 p.h),(38,I6 (yv:Int))]) (fun(yv:Nat) (s:zl)=>Rb::Row U5 s.pa s.na s.ca s.A::ai b5 26 [I6 h.w,I6 h.h,.slice q n c]::ai b6 145 [I6 p.x,I6 p.y,I6 p.dx,I6 p.dy,I6 p.w,I6 p.h]::ai bf 90 (hVz h.w h.h h.dep h.ak h.aV pp pl.length cp pt tr.length ct [.slice pd nd cd,.slice pk (aa.bd h tr).length ck])::Row (aK 62 .u16) q n c s.P::Rk::R::F) (fun(yv:Nat) (s:zl)=>(yv:Int)≤p.h∧s.a=at0+yv*(1+nr)∧s.P.length=n∧s.A.length=s.na∧(s.na=0∨s.na=nr)∧ag.aq s.A∧(∀w0 h,Rb w0 h→aE U5 s.pz (Dt.length-s.a) (Dt.drop s.a) w0 h)∧Dt.length-s.a≤s.cz∧aa.ez ⟨h,pl,tr⟩ Dt nr back p (p.h.toNat-yv) yv s.a s.A s.P=RES) (fun(yv:Nat) (s:zl)=>p.h.toNat-yv) (i2 (0) (⟨at0,pb,cb,none,0,0,[],cN⟩) ?_ (cK (bb ln)) (sub (.cons nQ (an (.cons ar (.cons dJ (.cons dJ (.cons dJ (.cons dJ (.cons dJ .nil)))))))) aj)) ?_
 ·exact⟨omg,by simp,hpx0,rfl,.inl rfl,aa.jc,hRb,hcb,hRES.symm⟩
 intro yv s
 rintro⟨hy,ha,hPl,hAl,hAn,hAB,hz,hcz,hres⟩
 refine(Qs) ?_
 refine av rfl (fun h39=>?_) (fun h39=>?_)
 ·refine(QN) ?_
  rcases(aa.Yt ⟨h,pl,tr⟩ Dt nr back p yv s.a s.A s.P) with hk4|⟨hk4,hr⟩|⟨hk4,P2,hr⟩
  ·refine(Qa) ?_
   have hyh:(yv:Int)<p.h:=omg
   have hya:(yv+1)*(1+nr)≤p.h.toNat*(1+nr):=Nat.mul_le_mul_right _ omg
   rw[Nat.add_mul,Nat.one_mul] at hya
   have hKD:U5.g (Dt.drop s.a) 0=(Dt.getD s.a 0):=aa.ea Dt s.a 0
   have hKB:0≤U5.g (Dt.drop s.a) 0∧U5.g (Dt.drop s.a) 0<256:=hKD▸hDB.get _
   have hdl:(Dt.drop s.a).length=Dt.length-s.a:=List.length_drop
   have hL1l:((Dt.drop (s.a+1)).take nr).length=nr:=by rw[List.length_take,List.length_drop];omega
   have hUl:(aa.ee (Dt.getD s.a 0) ((Dt.drop (s.a+1)).take nr) s.A back).length=nr:=(aa.qI ..).trans hL1l
   have hS1:∀w0 h,Rb w0 h→aE U5 (cM s.pz 1 s.cz 1) nr ((Dt.drop (s.a+1)).take nr) w0 h:=fun w0 h hh=>by have:=jo (cap:=0) (eB (c:=U5) hz hdl 1 s.cz omg hcz) nr omg w0 h hh;rwa [List.drop_drop] at this
   refine wN [pz 0 [] [3],pz 1 [0] [],pz 3 [1] [],pz 7 [2] [],pz 0 [] [3],pz 0 [] [11],pz 32 [5] [],pz 112 [4,6] [],pz 0 [] [13],pz 0 [] [12],pz 1023 [3,7,8,9] [],pz 2047 [10] [],pz 4095 [11] [],pz 4095 [11] [],pz 8191 [12] [],pz 32767 [13] []] [⟨fun y=>Rb,none,none,[1,2,10]⟩,⟨fun y=>Row U5 s.pa s.na s.ca s.A,none,none,[10]⟩,⟨fun y=>ai b5 26 [I6 h.w,I6 h.h,.slice q n c],none,none,[]⟩,⟨fun y=>ai b6 145 [I6 p.x,I6 p.y,I6 p.dx,I6 p.dy,I6 p.w,I6 p.h],none,none,[]⟩,⟨fun y=>ai bf 90 (hVz h.w h.h h.dep h.ak h.aV pp pl.length cp pt tr.length ct [.slice pd nd cd,.slice pk (aa.bd h tr).length ck]),none,none,[]⟩,⟨fun y=>Row (aK 62 .u16) q n c s.P,none,none,[]⟩,⟨fun y=>Rk,none,none,[]⟩,⟨fun y=>R,none,none,[]⟩] F V.mixed ?_
   refine nM ?_
   refine(Q6l) ?_
   refine(Q6m) ?_
   refine(Q6n) ?_
   iterate 2 refine nM ?_
   refine(Ti)<|(V0) ?_
   iterate 2 refine nM ?_
   refine nE (fun y FF hA=>aO (Post:=[Rb,Row U5 s.pa s.na s.ca s.A]) (OL (Dt.getD s.a 0) (cM s.pz 1 s.cz 1) (s.cz-1) nr ((Dt.drop (s.a+1)).take nr) Rb hS1 hL1l (aa.dS (aa.cA hDB _) _) s.pa s.ca s.na s.A (Row U5 s.pa s.na s.ca s.A) (fun _ _ hh=>hh.rd) hAl hAB back hbk omg (hDB.get _).1 omg hk4) V.V4 rfl (aJ .nil) (fun v G h=>by rcases h with⟨rfl,rfl⟩;exact⟨rfl,.refl _⟩))<|nM ?_
   iterate 2 refine nV (fun y hA L=>fz rfl rfl) ?_
   iterate 2 refine nA ?_
   refine(Qi) ?_
   intro y hA
   clear hA
   refine bJ<|bW [(0,.pointer (soz bf)),(3,.slice s.pz (Dt.length-s.a) s.cz),(5,.pointer (soz b5)),(6,.pointer (soz b6)),(11,I6 (nr:Int)),(12,I6 (back:Int)),(14,I6 (yv:Int)),(15,.slice none 0 0),(16,.bool false),(37,I6 p.h),(38,I6 (yv:Int))] (.cons (d:=0) rfl (.cons (d:=3) rfl (.cons (d:=5) rfl (.cons (d:=6) rfl (.cons (d:=11) rfl (.cons (d:=12) rfl (.cons (d:=14) rfl (.cons (d:=15) rfl (.cons (d:=16) rfl (.cons (d:=37) rfl (.cons (d:=38) rfl (.nil _))))))))))))<|bA (M:=Rb::Row U5 s.pa s.na s.ca s.A::ai b5 26 [I6 h.w,I6 h.h,.slice q n c]::ai b6 145 [I6 p.x,I6 p.y,I6 p.dx,I6 p.dy,I6 p.w,I6 p.h]::ai bf 90 (hVz h.w h.h h.dep h.ak h.aV pp pl.length cp pt tr.length ct [.slice pd nd cd,.slice pk (aa.bd h tr).length ck])::Row (aK 62 .u16) q n c s.P::Rk::R::F) (fun _ _ h=>h)<|bA (sub .nil (.keep (.skip (.keep (.keep (.keep (.keep (.keep (.keep .refl))))))))) ?_
   simp only[List.nil_append]
   refine rC TT 30 rfl ?_
   (exact af (G:=[ai bf 90 (hVz h.w h.h h.dep h.ak h.aV pp pl.length cp pt tr.length ct [.slice pd nd cd,.slice pk (aa.bd h tr).length ck]),Row (aK 62 .u16) q n c s.P,Rk,Rb,R]) (bR rfl rfl) (.inl ⟨aa.CN hyh hk4 hres,rfl,s.P,hPl,rfl⟩) (sub (.cons cB (.cons cB (.cons cB (an (.cons aL .nil))))) dC))
  ·refine(Qa) ?_
   have hyh:(yv:Int)<p.h:=omg
   have hya:(yv+1)*(1+nr)≤p.h.toNat*(1+nr):=Nat.mul_le_mul_right _ omg
   rw[Nat.add_mul,Nat.one_mul] at hya
   have hKD:U5.g (Dt.drop s.a) 0=(Dt.getD s.a 0):=aa.ea Dt s.a 0
   have hKB:0≤U5.g (Dt.drop s.a) 0∧U5.g (Dt.drop s.a) 0<256:=hKD▸hDB.get _
   have hdl:(Dt.drop s.a).length=Dt.length-s.a:=List.length_drop
   have hL1l:((Dt.drop (s.a+1)).take nr).length=nr:=by rw[List.length_take,List.length_drop];omega
   have hUl:(aa.ee (Dt.getD s.a 0) ((Dt.drop (s.a+1)).take nr) s.A back).length=nr:=(aa.qI ..).trans hL1l
   have hS1:∀w0 h,Rb w0 h→aE U5 (cM s.pz 1 s.cz 1) nr ((Dt.drop (s.a+1)).take nr) w0 h:=fun w0 h hh=>by have:=jo (cap:=0) (eB (c:=U5) hz hdl 1 s.cz omg hcz) nr omg w0 h hh;rwa [List.drop_drop] at this
   refine jE [pz 0 [] [3],pz 1 [0] [],pz 3 [1] [],pz 7 [2] [],pz 0 [] [3],pz 0 [] [11],pz 32 [5] [],pz 112 [4,6] [],pz 0 [] [13],pz 0 [] [12],pz 1023 [3,7,8,9] [],pz 2047 [10] [],pz 4095 [11] [],pz 4095 [11] [],pz 8191 [12] [],pz 32767 [13] []] [⟨fun y=>Rb,none,none,[1,2,10]⟩,⟨fun y=>Row U5 s.pa s.na s.ca s.A,none,none,[10]⟩,⟨fun y=>ai b5 26 [I6 h.w,I6 h.h,.slice q n c],none,none,[]⟩,⟨fun y=>ai b6 145 [I6 p.x,I6 p.y,I6 p.dx,I6 p.dy,I6 p.w,I6 p.h],none,none,[]⟩,⟨fun y=>ai bf 90 (hVz h.w h.h h.dep h.ak h.aV pp pl.length cp pt tr.length ct [.slice pd nd cd,.slice pk (aa.bd h tr).length ck]),none,none,[]⟩,⟨fun y=>Row (aK 62 .u16) q n c s.P,none,none,[]⟩,⟨fun y=>Rk,none,none,[]⟩,⟨fun y=>R,none,none,[]⟩,⟨fun y=>Row U5 (fV (y 10)).1 nr (fV (y 10)).2 (aa.ee (Dt.getD s.a 0) ((Dt.drop (s.a+1)).take nr) s.A back),some 10,none,[]⟩] F V.mixed (by kernel_rfl) rfl (fun _=>.refl _) (aU _ (aU _ (aU _ (aU _ (aU _ (aU _ (aU _ (aU _ (dq _ rfl (by intro y y2 h;simp only[h 10 (.inl rfl)]) fw))))))))) ?_
   refine nM ?_
   refine nR (fun y FF hA=>xI V.bT (by exact bK hz ay)) ?_
   refine nR (fun y FF hA=>xL V.s5 (by exact bK hz ay)) ?_
   refine nV (fun y hA L=>cn (v:=I6 (Dt.getD s.a 0)) (cS V.u5 Tryz.underlying3 rfl (aa.o8 hKB)) (congrArg (Value.int .i64) hKD)) ?_
   iterate 2 refine nM ?_
   refine(Ti)<|(V0) ?_
   iterate 2 refine nM ?_
   refine(Q8p) ?_
   refine(ZA) ?_
   refine(Zf) ?_
   refine(S5) ?_
   refine(Q4S) ?_
   refine nA ?_
   refine(Qi) ?_
   intro y hA
   clear hA
   refine bJ ?_
   refine bW [(0,.pointer (soz bf)),(3,.slice s.pz (Dt.length-s.a) s.cz),(5,.pointer (soz b5)),(6,.pointer (soz b6)),(11,I6 (nr:Int)),(12,I6 (back:Int)),(14,I6 (yv:Int)),(15,.slice (fV (y 10)).1 nr (fV (y 10)).2),(16,.bool true),(37,I6 p.h),(38,I6 (yv:Int))] (.cons (d:=0) rfl (.cons (d:=3) rfl (.cons (d:=5) rfl (.cons (d:=6) rfl (.cons (d:=11) rfl (.cons (d:=12) rfl (.cons (d:=14) rfl (.cons (d:=15) rfl (.cons (d:=16) rfl (.cons (d:=37) rfl (.cons (d:=38) rfl (.nil _)))))))))))) ?_
   refine bA (M:=Rb::Row U5 s.pa s.na s.ca s.A::ai b5 26 [I6 h.w,I6 h.h,.slice q n c]::ai b6 145 [I6 p.x,I6 p.y,I6 p.dx,I6 p.dy,I6 p.w,I6 p.h]::ai bf 90 (hVz h.w h.h h.dep h.ak h.aV pp pl.length cp pt tr.length ct [.slice pd nd cd,.slice pk (aa.bd h tr).length ck])::Row (aK 62 .u16) q n c s.P::Rk::R::Row U5 (fV (y 10)).1 nr (fV (y 10)).2 (aa.ee (Dt.getD s.a 0) ((Dt.drop (s.a+1)).take nr) s.A back)::F) (fun _ _ h=>h) ?_
   refine bA (sub .nil (.keep (.skip (.keep (.keep (.keep (.keep (.keep (.keep (.keep .refl)))))))))) ?_
   simp only[List.nil_append]
   generalize(fV (y 10)).1=q15
   generalize(fV (y 10)).2=c15
   refine(Qr)<|(Q0)<|(sa)<|(Zq)<|(Qm) ?_
   refine aQ (VZ h bf pp pl cp pt tr ct pd nd cd pk ck R hP hT hcp hB hBt hpl htl Rk hRk hf hs q n c hn hcap s.P hPl p hp yv hyh q15 c15 (aa.ee (Dt.getD s.a 0) ((Dt.drop (s.a+1)).take nr) s.A back) (by rw[hUl];omega) (aa.oh ..) (Row U5 q15 nr c15 (aa.ee (Dt.getD s.a 0) ((Dt.drop (s.a+1)).take nr) s.A back)) (fun _ _ hh=>by rw[hUl];exact hh.rd) (by rw[hUl];exact aa.rq omg omg hnr) nr hUl hr) V.UG rfl (.cons cB (.cons cB (.cons cB (.cons gW (.cons cB .nil))))) rfl ?_
   rintro _ _ ⟨rfl,P2,hP2,rfl⟩
   refine(qK) ?_
   (exact af (G:=[ai bf 90 (hVz h.w h.h h.dep h.ak h.aV pp pl.length cp pt tr.length ct [.slice pd nd cd,.slice pk (aa.bd h tr).length ck]),Row (aK 62 .u16) q n c P2,Rk,Rb,R]) (bR rfl rfl) (.inl ⟨aa.D7 hyh hk4 hr hres,rfl,P2,hP2,rfl⟩) (sub (dV (.cons aL (.cons ar .nil))) iW))
  ·refine(Qa) ?_
   have hyh:(yv:Int)<p.h:=omg
   have hya:(yv+1)*(1+nr)≤p.h.toNat*(1+nr):=Nat.mul_le_mul_right _ omg
   rw[Nat.add_mul,Nat.one_mul] at hya
   have hKD:U5.g (Dt.drop s.a) 0=(Dt.getD s.a 0):=aa.ea Dt s.a 0
   have hKB:0≤U5.g (Dt.drop s.a) 0∧U5.g (Dt.drop s.a) 0<256:=hKD▸hDB.get _
   have hdl:(Dt.drop s.a).length=Dt.length-s.a:=List.length_drop
   have hL1l:((Dt.drop (s.a+1)).take nr).length=nr:=by rw[List.length_take,List.length_drop];omega
   have hUl:(aa.ee (Dt.getD s.a 0) ((Dt.drop (s.a+1)).take nr) s.A back).length=nr:=(aa.qI ..).trans hL1l
   have hS1:∀w0 h,Rb w0 h→aE U5 (cM s.pz 1 s.cz 1) nr ((Dt.drop (s.a+1)).take nr) w0 h:=fun w0 h hh=>by have:=jo (cap:=0) (eB (c:=U5) hz hdl 1 s.cz omg hcz) nr omg w0 h hh;rwa [List.drop_drop] at this
   refine jE [pz 0 [] [3],pz 1 [0] [],pz 3 [1] [],pz 7 [2] [],pz 0 [] [3],pz 0 [] [11],pz 32 [5] [],pz 112 [4,6] [],pz 0 [] [13],pz 0 [] [12],pz 1023 [3,7,8,9] [],pz 2047 [10] [],pz 4095 [11] [],pz 4095 [11] [],pz 8191 [12] [],pz 32767 [13] []] [⟨fun y=>Rb,none,none,[1,2,10]⟩,⟨fun y=>Row U5 s.pa s.na s.ca s.A,none,none,[10]⟩,⟨fun y=>ai b5 26 [I6 h.w,I6 h.h,.slice q n c],none,none,[]⟩,⟨fun y=>ai b6 145 [I6 p.x,I6 p.y,I6 p.dx,I6 p.dy,I6 p.w,I6 p.h],none,none,[]⟩,⟨fun y=>ai bf 90 (hVz h.w h.h h.dep h.ak h.aV pp pl.length cp pt tr.length ct [.slice pd nd cd,.slice pk (aa.bd h tr).length ck]),none,none,[]⟩,⟨fun y=>Row (aK 62 .u16) q n c s.P,none,none,[]⟩,⟨fun y=>Rk,none,none,[]⟩,⟨fun y=>R,none,none,[]⟩,⟨fun y=>Row U5 (fV (y 10)).1 nr (fV (y 10)).2 (aa.ee (Dt.getD s.a 0) ((Dt.drop (s.a+1)).take nr) s.A back),some 10,none,[]⟩] F V.mixed (by kernel_rfl) rfl (fun _=>.refl _) (aU _ (aU _ (aU _ (aU _ (aU _ (aU _ (aU _ (aU _ (dq _ rfl (by intro y y2 h;simp only[h 10 (.inl rfl)]) fw))))))))) ?_
   refine nM ?_
   refine nR (fun y FF hA=>xI V.bT (by exact bK hz ay)) ?_
   refine nR (fun y FF hA=>xL V.s5 (by exact bK hz ay)) ?_
   refine nV (fun y hA L=>cn (v:=I6 (Dt.getD s.a 0)) (cS V.u5 Tryz.underlying3 rfl (aa.o8 hKB)) (congrArg (Value.int .i64) hKD)) ?_
   iterate 2 refine nM ?_
   refine(Ti)<|(V0) ?_
   iterate 2 refine nM ?_
   refine(Q8p) ?_
   refine(ZA) ?_
   refine(Zf) ?_
   refine(S5) ?_
   refine(Q4S) ?_
   refine nA ?_
   refine(Qi) ?_
   intro y hA
   clear hA
   refine bJ ?_
   refine bW [(0,.pointer (soz bf)),(3,.slice s.pz (Dt.length-s.a) s.cz),(5,.pointer (soz b5)),(6,.pointer (soz b6)),(11,I6 (nr:Int)),(12,I6 (back:Int)),(14,I6 (yv:Int)),(15,.slice (fV (y 10)).1 nr (fV (y 10)).2),(16,.bool true),(37,I6 p.h),(38,I6 (yv:Int))] (.cons (d:=0) rfl (.cons (d:=3) rfl (.cons (d:=5) rfl (.cons (d:=6) rfl (.cons (d:=11) rfl (.cons (d:=12) rfl (.cons (d:=14) rfl (.cons (d:=15) rfl (.cons (d:=16) rfl (.cons (d:=37) rfl (.cons (d:=38) rfl (.nil _)))))))))))) ?_
   refine bA (M:=Rb::Row U5 s.pa s.na s.ca s.A::ai b5 26 [I6 h.w,I6 h.h,.slice q n c]::ai b6 145 [I6 p.x,I6 p.y,I6 p.dx,I6 p.dy,I6 p.w,I6 p.h]::ai bf 90 (hVz h.w h.h h.dep h.ak h.aV pp pl.length cp pt tr.length ct [.slice pd nd cd,.slice pk (aa.bd h tr).length ck])::Row (aK 62 .u16) q n c s.P::Rk::R::Row U5 (fV (y 10)).1 nr (fV (y 10)).2 (aa.ee (Dt.getD s.a 0) ((Dt.drop (s.a+1)).take nr) s.A back)::F) (fun _ _ h=>h) ?_
   refine bA (sub .nil (.keep (.skip (.keep (.keep (.keep (.keep (.keep (.keep (.keep .refl)))))))))) ?_
   simp only[List.nil_append]
   generalize(fV (y 10)).1=q15
   generalize(fV (y 10)).2=c15
   refine(Qr)<|(Q0)<|(sa)<|(Zq)<|(Qm) ?_
   refine aQ (Se h bf pp pl cp pt tr ct pd nd cd pk ck R hP hT hcp hB hBt hpl htl Rk hRk hf hs q n c hn hcap s.P hPl p hp yv hyh q15 c15 (aa.ee (Dt.getD s.a 0) ((Dt.drop (s.a+1)).take nr) s.A back) (by rw[hUl];omega) (aa.oh ..) (Row U5 q15 nr c15 (aa.ee (Dt.getD s.a 0) ((Dt.drop (s.a+1)).take nr) s.A back)) (fun _ _ hh=>by rw[hUl];exact hh.rd) (by rw[hUl];exact aa.rq omg omg hnr) nr hUl P2 hr) V.UG rfl (.cons cB (.cons cB (.cons cB (.cons gW (.cons cB .nil))))) rfl ?_
   rintro _ _ ⟨hP2,rfl,rfl⟩
   refine(Qd)<|(jV) ?_
   refine rR TT 3 rfl<|oR (cn (v:=I6 ((nr+1:Nat):Int)) (dw (r:=1+(nr:Int)) rfl rfl wI) (congrArg (Value.int .i64) omg))<|oR (dZ (nr+1) (Dt.length-s.a) s.cz V.bT rfl ⟨_,rfl⟩ ⟨rfl,rfl⟩ rfl omg omg omg)<|(Qw)<|(lq) ?_
   refine Ug TT 6 rfl omg ?_
   rw[show Dt.length-s.a-(nr+1)=Dt.length-(s.a+1+nr) from by omega]
   exact j2 (yv+1) ⟨s.a+1+nr,cM s.pz (nr+1) s.cz 1,s.cz-(nr+1),q15,nr,c15,(aa.ee (Dt.getD s.a 0) ((Dt.drop (s.a+1)).take nr) s.A back),P2⟩ ⟨⟨omg,by show s.a+1+nr=_;rw[Nat.add_mul,Nat.one_mul];omega,hP2,hUl,.inr rfl,aa.oh ..,(fun w0 h hh=>by have:=eB (c:=U5) hz hdl (nr+1) s.cz omg hcz w0 h hh;rw[List.drop_drop] at this;rwa [show Dt.length-s.a-(nr+1)=Dt.length-(s.a+1+nr) by omega,show s.a+(nr+1)=s.a+1+nr by omega] at this),by show Dt.length-(s.a+1+nr)≤s.cz-(nr+1);omega,aa.DA hyh hk4 hr hres⟩,omg⟩ (cK (bb ln)) (sub (.cons jX (.cons cB (.cons gW (.cons gW (jm .nil))))) aj)
 ·refine(oZ) ?_
  have hyE:yv=p.h.toNat:=omg
  exact af (bR rfl rfl) (.inr ⟨s.a,s.P,s.pz,s.cz,aa.Ez omg hres,hPl,by rw[ha,hyE],hz,hcz,rfl,rfl⟩) (sub (.cons gW (.cons gW (.cons gW (an (.cons cB .nil))))) iW)
end Go.Proofs.YtmaiakpjgomnpaaGreat
namespace Go.Proofs.YtmaiakpjgomnpaaGreat
open Go.Sl
def V.nW:az Tryz.prog 17=true:=by kernel_rfl
def V.b37:az Tryz.prog 37=true:=by kernel_rfl
def V.b38:az Tryz.prog 38=true:=by kernel_rfl
def V.b39:az Tryz.prog 39=true:=by kernel_rfl
def V.IH:az Tryz.prog 40=true:=by kernel_rfl
def V.b41:az Tryz.prog 41=true:=by kernel_rfl
def V.b42:az Tryz.prog 42=true:=by kernel_rfl
def V.b81:az Tryz.prog 81=true:=by kernel_rfl
def V.b82:az Tryz.prog 82=true:=by kernel_rfl
def V.b83:az Tryz.prog 83=true:=by kernel_rfl
def V.b84:az Tryz.prog 84=true:=by kernel_rfl
def V.b85:az Tryz.prog 85=true:=by kernel_rfl
def V.ZZ:az Tryz.prog 86=true:=by kernel_rfl
end Go.Proofs.YtmaiakpjgomnpaaGreat
namespace Go.Proofs.YtmaiakpjgomnpaaGreat
open Go.Sl 
attribute [local irreducible] ag.aq aa.bD aa.cL aa.deep aa.parts HW aa.bd aa.fm aa.fP aa.ez aa.ko aa.j6 aa.ee aa.eC aa.fy aa.nt aa.want aa.aD aa.lf aa.nI aa.mT aa.jt aC.nb aa.aW aa.aR aa.ba aa.aY aa.bM aa.eH aa.eZ aa.gK aa.bS aa.dH aa.cut aa.ed aa.zk
def PR(h:aa.Hd)(bf:Nat)(pp:Option Addr)(pl:List Int)(cp:Nat)(pt:Option Addr)(tr:List Int)(ct:Nat)(pd:Option Addr)(nd cd:Nat)(pk:Option Addr)(ck:Nat)(R:ad)(hP:∀w0 h,R w0 h→aE U5 pp pl.length pl w0 h)(hT:∀w0 h,R w0 h→aE U5 pt tr.length tr w0 h)(hcp:pl.length≤cp)(hB:ag.aq pl)(hBt:ag.aq tr)(hpl:pl.length<500000000)(htl:tr.length<500000000)(Rk:ad)(hRk:∀w0 h_,Rk w0 h_→aE (aK 3 .i64) pk (aa.bd h tr).length (aa.bd h tr) w0 h_)(hf:aa.fm ⟨h,pl,tr⟩)(hs:aa.bD h.w h.h=0)(q:Option Addr)(n c:Nat)(hn:(n:Int)=4*h.w*h.h)(hcap:n≤c)(cN:List Int)(hpx0:cN.length=n)(p:aa.Ps)(hp:aa.j6 p h.w h.h)(Dt:List Int)(hDB:ag.aq Dt)(hDl:Dt.length<500000000)(nr:Nat)(hnr:(nr:Int)=aa.eC p.w (aa.parts h.ak*h.dep))(back:Nat)(hback:(back:Int)=max 1 ((aa.parts h.ak*h.dep)/8))(at0:Nat)(hat:at0+p.h.toNat*(1+nr)≤Dt.length)(pb:Option Addr)(cb:Nat)(Rb:ad)(hRb:∀w0 h,Rb w0 h→aE U5 pb (Dt.length-at0) (Dt.drop at0) w0 h)(hcb:Dt.length-at0≤cb)(hr:aa.ez ⟨h,pl,tr⟩ Dt nr back p p.h.toNat 0 at0 [] cN=none):aA Tryz.prog 86 [.pointer (soz bf),.agg #[I6 h.w,I6 h.h,.slice q n c],.agg #[I6 p.x,I6 p.y,I6 p.dx,I6 p.dy,I6 p.w,I6 p.h],.slice pb (Dt.length-at0) cb] [ai bf 90 (hVz h.w h.h h.dep h.ak h.aV pp pl.length cp pt tr.length ct [.slice pd nd cd,.slice pk (aa.bd h tr).length ck]),Row (aK 62 .u16) q n c cN,Rk,Rb,R] (aF fun v G=>v=.tuple #[.slice none 0 0,.bool false]∧∃P,P.length=n∧G=[ai bf 90 (hVz h.w h.h h.dep h.ak h.aV pp pl.length cp pt tr.length ct [.slice pd nd cd,.slice pk (aa.bd h tr).length ck]),Row (aK 62 .u16) q n c P,Rk,Rb,R]):=by
 refine(Bw h bf pp pl cp pt tr ct pd nd cd pk ck R hP hT hcp hB hBt hpl htl Rk hRk hf hs q n c hn hcap cN hpx0 p hp Dt hDB hDl nr hnr back hback at0 hat pb cb Rb hRb hcb).mono ?_
 rintro e2 G ⟨v,rfl,(⟨_,rfl,P,h1,rfl⟩|⟨a,P,z,cz,h,_⟩)⟩
 ·exact⟨_,rfl,rfl,P,h1,rfl⟩
 ·rw[hr] at h;cases h
def P0(h:aa.Hd)(bf:Nat)(pp:Option Addr)(pl:List Int)(cp:Nat)(pt:Option Addr)(tr:List Int)(ct:Nat)(pd:Option Addr)(nd cd:Nat)(pk:Option Addr)(ck:Nat)(R:ad)(hP:∀w0 h,R w0 h→aE U5 pp pl.length pl w0 h)(hT:∀w0 h,R w0 h→aE U5 pt tr.length tr w0 h)(hcp:pl.length≤cp)(hB:ag.aq pl)(hBt:ag.aq tr)(hpl:pl.length<500000000)(htl:tr.length<500000000)(Rk:ad)(hRk:∀w0 h_,Rk w0 h_→aE (aK 3 .i64) pk (aa.bd h tr).length (aa.bd h tr) w0 h_)(hf:aa.fm ⟨h,pl,tr⟩)(hs:aa.bD h.w h.h=0)(q:Option Addr)(n c:Nat)(hn:(n:Int)=4*h.w*h.h)(hcap:n≤c)(cN:List Int)(hpx0:cN.length=n)(p:aa.Ps)(hp:aa.j6 p h.w h.h)(Dt:List Int)(hDB:ag.aq Dt)(hDl:Dt.length<500000000)(nr:Nat)(hnr:(nr:Int)=aa.eC p.w (aa.parts h.ak*h.dep))(back:Nat)(hback:(back:Int)=max 1 ((aa.parts h.ak*h.dep)/8))(at0:Nat)(hat:at0+p.h.toNat*(1+nr)≤Dt.length)(pb:Option Addr)(cb:Nat)(Rb:ad)(hRb:∀w0 h,Rb w0 h→aE U5 pb (Dt.length-at0) (Dt.drop at0) w0 h)(hcb:Dt.length-at0≤cb)(a2:Nat)(P2:List Int)(hr:aa.ez ⟨h,pl,tr⟩ Dt nr back p p.h.toNat 0 at0 [] cN=some (a2,P2)):aA Tryz.prog 86 [.pointer (soz bf),.agg #[I6 h.w,I6 h.h,.slice q n c],.agg #[I6 p.x,I6 p.y,I6 p.dx,I6 p.dy,I6 p.w,I6 p.h],.slice pb (Dt.length-at0) cb] [ai bf 90 (hVz h.w h.h h.dep h.ak h.aV pp pl.length cp pt tr.length ct [.slice pd nd cd,.slice pk (aa.bd h tr).length ck]),Row (aK 62 .u16) q n c cN,Rk,Rb,R] (aF fun v G=>∃pz cz,P2.length=n∧a2=at0+p.h.toNat*(1+nr)∧(∀w0 h,Rb w0 h→aE U5 pz (Dt.length-a2) (Dt.drop a2) w0 h)∧Dt.length-a2≤cz∧v=.tuple #[.slice pz (Dt.length-a2) cz,.bool true]∧G=[ai bf 90 (hVz h.w h.h h.dep h.ak h.aV pp pl.length cp pt tr.length ct [.slice pd nd cd,.slice pk (aa.bd h tr).length ck]),Row (aK 62 .u16) q n c P2,Rk,Rb,R]):=by
 refine(Bw h bf pp pl cp pt tr ct pd nd cd pk ck R hP hT hcp hB hBt hpl htl Rk hRk hf hs q n c hn hcap cN hpx0 p hp Dt hDB hDl nr hnr back hback at0 hat pb cb Rb hRb hcb).mono ?_
 rintro e2 G ⟨v,rfl,(⟨h,_⟩|⟨a,P,z,cz,h,h1,h2,h3,h4,rfl,rfl⟩)⟩
 ·rw[hr] at h;cases h
 ·rw[hr] at h;cases h;exact⟨_,rfl,z,cz,h1,h2,h3,h4,rfl,rfl⟩
def W0(w h:Int)(hs:aa.bD w h=0):aA Tryz.prog 85 [I6 w,I6 h] [] (aF fun v G=>∃b:Nat,v=.tuple #[.agg #[I6 w,I6 h,.slice (soz b) ((4*w*h).toNat) ((4*w*h).toNat)],I6 0]∧G=[Row (aK 62 .u16) (soz b) ((4*w*h).toNat) ((4*w*h).toNat) (List.replicate ((4*w*h).toNat) 0)]):=by
 refine(Yq w h).mono ?_
 rintro e2 G ⟨v,rfl,(⟨h1,_⟩|⟨_,b,rfl,rfl⟩)⟩
 ·exact absurd hs h1
 ·exact⟨_,rfl,b,rfl,rfl⟩

def T7(h:aa.Hd)(bf:Nat)(pp:Option Addr)(pl:List Int)(cp:Nat)(pt:Option Addr)(tr:List Int)(ct:Nat)(pd:Option Addr)(cd:Nat)(pk:Option Addr)(ck:Nat)(R:ad)(hP:∀w0 h,R w0 h→aE U5 pp pl.length pl w0 h)(hT:∀w0 h,R w0 h→aE U5 pt tr.length tr w0 h)(hcp:pl.length≤cp)(hB:ag.aq pl)(hBt:ag.aq tr)(hpl:pl.length<500000000)(htl:tr.length<500000000)(Rk:ad)(hRk:∀w0 h_,Rk w0 h_→aE (aK 3 .i64) pk (aa.bd h tr).length (aa.bd h tr) w0 h_)(hf:aa.fm ⟨h,pl,tr⟩)(hs:aa.bD h.w h.h=0)(Z:List Int)(hZB:ag.aq Z)(hZl:Z.length<500000000)(hcd:Z.length≤cd)(Rd:ad)(hRd:∀w0 h,Rd w0 h→aE U5 pd Z.length Z w0 h)(z:List Int×Int)(hz:aC.nb Z (aa.want h) z):aA Tryz.prog 42 [.pointer (soz bf)] [ai bf 90 (hVz h.w h.h h.dep h.ak h.aV pp pl.length cp pt tr.length ct [.slice pd Z.length cd,.slice pk (aa.bd h tr).length ck]),Rk,Rd,R] (aF fun v G=>∃q n c,v=.tuple #[.agg #[I6 (aa.nt ⟨h,pl,tr⟩ z).1.w,I6 (aa.nt ⟨h,pl,tr⟩ z).1.h,.slice q n c],I6 (aa.nt ⟨h,pl,tr⟩ z).2]∧(aa.nt ⟨h,pl,tr⟩ z).1.cN.length=n∧n≤c∧G=[Row (aK 62 .u16) q n c (aa.nt ⟨h,pl,tr⟩ z).1.cN]):=by
 refine ao [(0,_)] Tryz.func42 rfl Tryz.ntmps42 rfl rfl ?_
 intro w0 F
 have hde:aa.deep h.ak h.dep:=by unfold aa.fm at hf;exact hf.1
 have hpc:=aa.fJ hde
 have hdi:=aa.iz (aa.fO hde)
 have hbits:=aa.l7 hde
 have hsd:=aa.jj hs
 have hs4:=aa.oX hs
 have hps:=aa.jw hs
 have hwi:=aa.DB hs hde
 have hzbl:=aa.wk hZB hwi.2 hz
 have hzB:=hzbl.1
 have hzl:=hzbl.2
 have hwn:=aa.yU hs hde
 refine(QK)<|(ti) ?_
 intro b2
 refine rO TT 4 rfl ?_
 refine jE [pz 0 [] [0],pz 1 [0] [],pz 3 [1] [],pz 7 [2] [],pz 15 [3] [],pz 0 [] [0],pz 32 [5] [],pz 96 [6] [],pz 224 [7] [],pz 480 [8] [],pz 1023 [4,9] [],pz 2047 [10] []] [⟨fun y=>ai b2 26 [I6 0,I6 0,.slice none 0 0],none,none,[]⟩,⟨fun y=>ai bf 90 (hVz h.w h.h h.dep h.ak h.aV pp pl.length cp pt tr.length ct [.slice pd Z.length cd,.slice pk (aa.bd h tr).length ck]),none,none,[4,9]⟩,⟨fun y=>Rk,none,none,[]⟩,⟨fun y=>Rd,none,none,[]⟩,⟨fun y=>R,none,none,[]⟩,⟨fun y=>Row PK (ej (y 10)) (aa.whole h.w h.h).length (fT (y 10)) (aa.whole h.w h.h),some 10,none,[]⟩] F V.mixed (by kernel_rfl) rfl (fun _=>.refl _) (aU _ (aU _ (aU _ (aU _ (aU _ (dq _ rfl (by intro y y2 h;simp only[h 10 (.inl rfl)]) fw)))))) ?_
 refine nM ?_
 refine nN ?_
 refine nG V.iS ?_
 refine nG V.E8 ?_
 refine nR (fun y FF hA=>aB V.s3 rfl ay rfl) ?_
 refine nM ?_
 refine nN ?_
 refine nG V.iS ?_
 refine nG V.vI ?_
 refine nR (fun y FF hA=>aB V.s3 rfl ay rfl) ?_
 refine fh (fun y v=>.slice (ej v) (aa.whole h.w h.h).length (fT v)) (fun y v=>True) _ _ (fun y v=>[Row PK (ej v) (aa.whole h.w h.h).length (fT v) (aa.whole h.w h.h)]) _ (fun y=>rfl) (fun y=>rfl) (fun y=>rfl) (fun y=>rfl) (fun y FF hA=>zn (Rj h.w h.h hs) V.b81 rfl .nil) (by intros;rfl) (by intros;rfl) (by intros;rfl) (by intro y y2 h;simp only[h 10 (.inl rfl)]) (by intro y y2 h;rfl) ?_
 refine dv _ (fun y=>rfl) rfl rfl rfl (fun y hA L=>dm (jZ rfl) ⟨rfl,rfl⟩) (by intros;rfl) (by intro y y2 h;simp only[h 10 (.inr dec)]) ?_
 refine cZ ?_
 intro y hA
 clear hA
 refine bJ<|bW [(0,.pointer (soz bf)),(2,.pointer (soz b2)),(4,.slice (ej (y 10)) (aa.whole h.w h.h).length (fT (y 10)))] (.cons (d:=0) rfl (.cons (d:=2) rfl (.cons (d:=4) rfl (.nil _))))<|bA (M:=ai b2 26 [I6 0,I6 0,.slice none 0 0]::ai bf 90 (hVz h.w h.h h.dep h.ak h.aV pp pl.length cp pt tr.length ct [.slice pd Z.length cd,.slice pk (aa.bd h tr).length ck])::Rk::Rd::R::Row PK (ej (y 10)) (aa.whole h.w h.h).length (fT (y 10)) (aa.whole h.w h.h)::F) (fun _ _ h=>h) ?_
 generalize(ej (y 10))=pw
 generalize(fT (y 10))=cw
 refine yi (fun(pa:Option Addr) (ca:Nat)=>[(0,.pointer (soz bf)),(2,.pointer (soz b2)),(4,.slice pa (aa.aD h).length ca)]) (fun(pa:Option Addr) (ca:Nat)=>Row PK pa (aa.aD h).length ca (aa.aD h)::ai b2 26 [I6 0,I6 0,.slice none 0 0]::ai bf 90 (hVz h.w h.h h.dep h.ak h.aV pp pl.length cp pt tr.length ct [.slice pd Z.length cd,.slice pk (aa.bd h tr).length ck])::Rk::Rd::R::F) (fun(pa:Option Addr) (ca:Nat)=>True) ?_ ?_
 ·rcases(aa.tf h.aV) with hl1|hl2
  ·refine rL TT 6 rfl ?_
   refine oV (cn (v:=.bool true) (aB V.s4 rfl cX rfl) (congrArg Value.bool hl1)) ?_
   refine rO TT 3 rfl ?_
   refine jE [pz 0 [] [0],pz 1 [0] [],pz 3 [1] [],pz 7 [2] [],pz 15 [3] [],pz 0 [] [0],pz 32 [5] [],pz 96 [6] [],pz 224 [7] [],pz 480 [8] [],pz 1023 [4,9] [],pz 2047 [10] []] [⟨fun y=>ai b2 26 [I6 0,I6 0,.slice none 0 0],none,none,[]⟩,⟨fun y=>ai bf 90 (hVz h.w h.h h.dep h.ak h.aV pp pl.length cp pt tr.length ct [.slice pd Z.length cd,.slice pk (aa.bd h tr).length ck]),none,none,[4,9]⟩,⟨fun y=>Rk,none,none,[]⟩,⟨fun y=>Rd,none,none,[]⟩,⟨fun y=>R,none,none,[]⟩,⟨fun y=>Row PK pw (aa.whole h.w h.h).length cw (aa.whole h.w h.h),none,none,[]⟩,⟨fun y=>Row PK (ej (y 10)) (aa.fq h.w h.h).length (fT (y 10)) (aa.fq h.w h.h),some 10,none,[]⟩] F V.mixed (by kernel_rfl) rfl (fun _=>.refl _) (aU _ (aU _ (aU _ (aU _ (aU _ (aU _ (dq _ rfl (by intro y y2 h;simp only[h 10 (.inl rfl)]) fw))))))) ?_
   refine nM ?_
   refine nN ?_
   refine nG V.iS ?_
   refine nG V.E8 ?_
   refine nR (fun y FF hA=>aB V.s3 rfl ay rfl) ?_
   refine nM ?_
   refine nN ?_
   refine nG V.iS ?_
   refine nG V.vI ?_
   refine nR (fun y FF hA=>aB V.s3 rfl ay rfl) ?_
   refine fh (fun y v=>.slice (ej v) (aa.fq h.w h.h).length (fT v)) (fun y v=>True) _ _ (fun y v=>[Row PK (ej v) (aa.fq h.w h.h).length (fT v) (aa.fq h.w h.h)]) _ (fun y=>rfl) (fun y=>rfl) (fun y=>rfl) (fun y=>rfl) (fun y FF hA=>zn (KM h.w h.h hs) V.b82 rfl .nil) (by intros;rfl) (by intros;rfl) (by intros;rfl) (by intro y y2 h;simp only[h 10 (.inl rfl)]) (by intro y y2 h;rfl) ?_
   refine dv _ (fun y=>rfl) rfl rfl rfl (fun y hA L=>dm (jZ rfl) ⟨rfl,rfl⟩) (by intros;rfl) (by intro y y2 h;simp only[h 10 (.inr dec)]) ?_
   refine cZ ?_
   intro y hA
   clear hA
   show jB _ _ _ _ (ai b2 26 [I6 0,I6 0,.slice none 0 0]::ai bf 90 (hVz h.w h.h h.dep h.ak h.aV pp pl.length cp pt tr.length ct [.slice pd Z.length cd,.slice pk (aa.bd h tr).length ck])::Rk::Rd::R::Row PK pw (aa.whole h.w h.h).length cw (aa.whole h.w h.h)::Row PK (ej (y 10)) (aa.fq h.w h.h).length (fT (y 10)) (aa.fq h.w h.h)::F)
   (rw[show(aa.fq h.w h.h)=(aa.aD h) from aa.w8 hl1];exact j2 _ _ trivial (eo ln) (sub (.cons nQ (iV .nil)) bg))
  ·refine(Qs) ?_
   refine oV (cn (v:=.bool false) (aB V.s4 rfl cX rfl) (congrArg Value.bool hl2))<|(Q7) ?_
   (rw[show(aa.whole h.w h.h)=(aa.aD h) from aa.xn hl2];exact j2 _ _ trivial (eo ln) (sub (.cons jX (iV .nil)) aj))
 ·intro pa ca
  rintro-
  refine(Qa) ?_
  refine wN [pz 0 [] [4],pz 0 [] [0],pz 2 [1] [],pz 6 [2] [],pz 14 [3] [],pz 30 [4] [],pz 62 [5] [],pz 0 [] [0],pz 128 [7] [],pz 384 [8] [],pz 896 [9] [],pz 1920 [10] [],pz 4094 [6,11] [],pz 8191 [0,12] [],pz 16383 [13] []] [⟨fun y=>Row PK pa (aa.aD h).length ca (aa.aD h),none,none,[13]⟩,⟨fun y=>ai b2 26 [I6 0,I6 0,.slice none 0 0],none,none,[]⟩,⟨fun y=>ai bf 90 (hVz h.w h.h h.dep h.ak h.aV pp pl.length cp pt tr.length ct [.slice pd Z.length cd,.slice pk (aa.bd h tr).length ck]),none,none,[5,11]⟩,⟨fun y=>Rk,none,none,[]⟩,⟨fun y=>Rd,none,none,[]⟩,⟨fun y=>R,none,none,[]⟩] F V.mixed ?_
  iterate 2 refine nM ?_
  refine nN ?_
  refine nG V.iS ?_
  refine nG V.tL ?_
  refine nR (fun y FF hA=>aB V.s3 rfl ay rfl) ?_
  refine nE (fun y FF hA=>aO (Post:=[]) (gV h.ak) V.pg rfl .nil (fun v G h=>by rcases h with⟨rfl,rfl⟩;exact⟨rfl,.refl _⟩)) ?_
  refine nM ?_
  refine nN ?_
  refine nG V.iS ?_
  refine nG V.zL ?_
  refine nR (fun y FF hA=>aB V.s3 rfl ay rfl) ?_
  refine nV (fun y hA L=>fR (r:=(aa.parts h.ak*h.dep)) rfl rfl wI) ?_
  refine nE (fun y FF hA=>aO (Post:=[Row PK pa (aa.aD h).length ca (aa.aD h)]) (PW pa ca (aa.aD h) (aa.parts h.ak*h.dep) (Row PK pa (aa.aD h).length ca (aa.aD h)) (fun _ _ hh=>hh.rd) hps.2 (fun p hp=>(hps.1 p hp).2.1) ⟨omg,omg⟩) V.b83 rfl (an .nil) (fun v G hh=>by rcases hh with⟨rfl,rfl⟩;exact⟨congrArg (Value.int .i64) (aa.DS h),.refl _⟩)) ?_
  refine nA ?_
  refine cZ ?_
  intro y hA
  clear hA
  refine bJ<|bW [(0,.pointer (soz bf)),(2,.pointer (soz b2)),(4,.slice pa (aa.aD h).length ca),(5,I6 (aa.want h))] (.cons (d:=0) rfl (.cons (d:=2) rfl (.cons (d:=4) rfl (.cons (d:=5) rfl (.nil _)))))<|bA (M:=Row PK pa (aa.aD h).length ca (aa.aD h)::ai b2 26 [I6 0,I6 0,.slice none 0 0]::ai bf 90 (hVz h.w h.h h.dep h.ak h.aV pp pl.length cp pt tr.length ct [.slice pd Z.length cd,.slice pk (aa.bd h tr).length ck])::Rk::Rd::R::F) (fun _ _ h=>h)<|(Qb) ?_
  refine oV (aB V.kO rfl dz rfl)<|(Q8) ?_
  refine aQ (Tf pd cd Z Rd hRd hcd hZl hZB (aa.want h) hwi.2 z hz) V.b84 rfl (.cons gW .nil) rfl ?_
  rintro _ _ ⟨qz,cqz,rfl,rfl⟩
  refine(Qn) ?_
  rcases(aa.Wm ⟨h,pl,tr⟩ z) with⟨h1,hw_⟩|⟨h1,h2,hw_⟩|⟨h1,h2⟩
  ·refine(Q3) ?_
   refine oV (bQ (bO rfl rfl) h1)<|(Q1)<|(ng)<|(Q8)<|(ME)<|(Q1) ?_
   rw[hw_]
   exact af (cH V.ff rfl fX rfl rfl) ⟨none,0,0,rfl,rfl,Nat.le_refl _,rfl⟩ ((bH (A:=Row (aK 62 .u16) none 0 0 []) (fun w0=>Row.nil _ _ _)).trans (sub (an .nil) ML))
  ·refine(Q3) ?_
   refine oV (bC (bO rfl rfl) h1)<|(Qn) ?_
   refine oV (bQ (dD rfl rfl) h2)<|(Q1)<|(ng)<|(ME)<|(Q1) ?_
   rw[hw_]
   exact af (cH V.ff rfl fX rfl rfl) ⟨none,0,0,rfl,rfl,Nat.le_refl _,rfl⟩ ((bH (A:=Row (aK 62 .u16) none 0 0 []) (fun w0=>Row.nil _ _ _)).trans (sub (an .nil) ML))
  ·refine(Q3) ?_
   refine oV (bC (bO rfl rfl) h1)<|(Qn) ?_
   refine oV (bC (dD rfl rfl) h2)<|(Qe) ?_
   refine fe (fun w hi=>eb hi (show Row U5 qz z.1.length cqz z.1∈_ by exact ay)) (fun hcz0=>?_)
   refine jE [pz 0 [] [0],pz 1 [0] [],pz 3 [1] [],pz 7 [2] [],pz 15 [3] [],pz 0 [] [0],pz 32 [5] [],pz 96 [6] [],pz 224 [7] [],pz 480 [8] [],pz 1023 [4,9] [],pz 2047 [10] [],pz 4095 [11] [],pz 4095 [11] [],pz 0 [] [],pz 24575 [14,12] [],pz 65535 [13] []] [⟨fun y=>Row U5 qz z.1.length cqz z.1,none,none,[]⟩,⟨fun y=>Rd,none,none,[]⟩,⟨fun y=>Row PK pa (aa.aD h).length ca (aa.aD h),none,none,[]⟩,⟨fun y=>ai b2 26 [I6 0,I6 0,.slice none 0 0],none,none,[]⟩,⟨fun y=>ai bf 90 (hVz h.w h.h h.dep h.ak h.aV pp pl.length cp pt tr.length ct [.slice pd Z.length cd,.slice pk (aa.bd h tr).length ck]),none,none,[4,9]⟩,⟨fun y=>Rk,none,none,[]⟩,⟨fun y=>R,none,none,[]⟩,⟨fun y=>Row (aK 62 .u16) (some ⟨zu (y 10),0,none⟩) ((4*h.w*h.h).toNat) ((4*h.w*h.h).toNat) (List.replicate ((4*h.w*h.h).toNat) 0),some 10,none,[]⟩,⟨fun y=>ai (eG (y 14)) 26 [I6 0,I6 0,.slice none 0 0],some 14,some 15,[]⟩,⟨fun y=>ai (eG (y 14)) 26 [I6 h.w,I6 h.h,.slice (some ⟨zu (y 10),0,none⟩) ((4*h.w*h.h).toNat) ((4*h.w*h.h).toNat)],some 15,none,[]⟩] F V.mixed (by kernel_rfl) rfl (fun _=>.refl _) (aU _ (aU _ (aU _ (aU _ (aU _ (aU _ (aU _ (dq _ rfl (by intro y y2 h;simp only[h 10 (.inl rfl)]) (dq _ rfl (by intro y y2 h;simp only[h 14 (.inl rfl)]) (dq _ rfl (by intro y y2 h;simp only[h 10 (.inr dec),h 14 (.inr dec)]) fw)))))))))) ?_
   refine nM ?_
   refine nN ?_
   refine nG V.iS ?_
   refine nG V.E8 ?_
   refine nR (fun y FF hA=>aB V.s3 rfl ay rfl) ?_
   refine nM ?_
   refine nN ?_
   refine nG V.iS ?_
   refine nG V.vI ?_
   refine nR (fun y FF hA=>aB V.s3 rfl ay rfl) ?_
   refine fh (fun y v=>.tuple #[.agg #[I6 h.w,I6 h.h,.slice (some ⟨zu v,0,none⟩) ((4*h.w*h.h).toNat) ((4*h.w*h.h).toNat)],I6 0]) (fun y v=>True) _ _ (fun y v=>[Row (aK 62 .u16) (some ⟨zu v,0,none⟩) ((4*h.w*h.h).toNat) ((4*h.w*h.h).toNat) (List.replicate ((4*h.w*h.h).toNat) 0)]) _ (fun y=>rfl) (fun y=>rfl) (fun y=>rfl) (fun y=>rfl) (fun y FF hA=>ve (α:=Nat) (fun b=>.tuple #[.agg #[I6 h.w,I6 h.h,.slice (soz b) ((4*h.w*h.h).toNat) ((4*h.w*h.h).toNat)],I6 0]) zu (fun b=>[Row (aK 62 .u16) (soz b) ((4*h.w*h.h).toNat) ((4*h.w*h.h).toNat) (List.replicate ((4*h.w*h.h).toNat) 0)]) (W0 h.w h.h hs) (fun a=>rfl) V.b85 rfl .nil) (by intros;rfl) (by intros;rfl) (by intros;rfl) (by intro y y2 h;simp only[h 10 (.inl rfl)]) (by intro y y2 h;rfl) ?_
   refine dv _ (fun y=>rfl) rfl rfl rfl (fun y hA L=>dm (jh rfl) ⟨rfl,rfl⟩) (by intros;rfl) (by intro y y2 h;simp only[h 10 (.inr dec)]) ?_
   refine dv _ (fun y=>rfl) rfl rfl rfl (fun y hA L=>dm (fz rfl rfl) ⟨rfl,rfl⟩) (by intros;rfl) (by intro y y2 h;simp only[h 10 (.inr dec)]) ?_
   refine nV (fun y hA L=>fz rfl rfl) ?_
   refine fh (fun y v=>.pointer (some ⟨eG v,0,none⟩)) (fun y v=>True) _ _ (fun y v=>[ai (eG v) 26 [I6 0,I6 0,.slice none 0 0]]) _ (fun y=>rfl) (fun y=>rfl) (fun y=>rfl) (fun y=>rfl) (fun y FF hA=>pf (qD V.zd)) (by intros;rfl) (by intros;rfl) (by intros;rfl) (by intro y y2 h;simp only[h 14 (.inl rfl)]) (by intro y y2 h;rfl) ?_
   refine nE (fun y FF hA=>dm (aZ V.ff rfl rfl (us:=[_,_,_]) rfl rfl (by exact ft) (by exact Nat.le_of_ble_eq_true rfl) rfl) ⟨rfl,.refl _⟩) ?_
   refine nA ?_
   refine cZ ?_
   intro y hA
   clear hA
   refine bJ<|bW [(0,.pointer (soz bf)),(2,.pointer (soz b2)),(4,.slice pa (aa.aD h).length ca),(6,.slice qz z.1.length cqz),(8,.pointer (some ⟨(eG (y 14)),0,none⟩))] (.cons (d:=0) rfl (.cons (d:=2) rfl (.cons (d:=4) rfl (.cons (d:=6) rfl (.cons (d:=8) rfl (.nil _))))))<|bA (M:=Row U5 qz z.1.length cqz z.1::Rd::Row PK pa (aa.aD h).length ca (aa.aD h)::ai b2 26 [I6 0,I6 0,.slice none 0 0]::ai bf 90 (hVz h.w h.h h.dep h.ak h.aV pp pl.length cp pt tr.length ct [.slice pd Z.length cd,.slice pk (aa.bd h tr).length ck])::Rk::R::Row (aK 62 .u16) (some ⟨zu (y 10),0,none⟩) ((4*h.w*h.h).toNat) ((4*h.w*h.h).toNat) (List.replicate ((4*h.w*h.h).toNat) 0)::ai (eG (y 14)) 26 [I6 h.w,I6 h.h,.slice (some ⟨zu (y 10),0,none⟩) ((4*h.w*h.h).toNat) ((4*h.w*h.h).toNat)]::F) (fun _ _ h=>h) ?_
   generalize(zu (y 10))=bq
   generalize(eG (y 14))=b8
   refine(r6) ?_
   rw[show List.replicate ((4*h.w*h.h).toNat) 0=aa.kI h from by unfold aa.kI;rfl]
   obtain⟨RES,hRES⟩:∃r,r=aa.fy ⟨h,pl,tr⟩ z.1 (aa.aD h) 0 (aa.kI h):=⟨_,rfl⟩
   have h2w:¬(z.1.length:Int)<aa.want h:=h2
   refine tZ (fun(i:Nat) (a:Nat) (pz:Option Addr) (cz:Nat) (P:List Int)=>[(0,.pointer (soz bf)),(2,.pointer (soz b2)),(6,.slice pz (z.1.length-a) cz),(8,.pointer (soz b8)),(88,.slice pa (aa.aD h).length ca),(89,I6 ((aa.aD h).length:Int)),(90,I6 (i:Int))]) (fun(i:Nat) (a:Nat) (pz:Option Addr) (cz:Nat) (P:List Int)=>ai b8 26 [I6 h.w,I6 h.h,.slice (soz bq) ((4*h.w*h.h).toNat) ((4*h.w*h.h).toNat)]::Row (aK 62 .u16) (soz bq) ((4*h.w*h.h).toNat) ((4*h.w*h.h).toNat) P::Row PK pa (aa.aD h).length ca (aa.aD h)::Row U5 qz z.1.length cqz z.1::ai b2 26 [I6 0,I6 0,.slice none 0 0]::ai bf 90 (hVz h.w h.h h.dep h.ak h.aV pp pl.length cp pt tr.length ct [.slice pd Z.length cd,.slice pk (aa.bd h tr).length ck])::Rk::Rd::R::F) (fun(i:Nat) (a:Nat) (pz:Option Addr) (cz:Nat) (P:List Int)=>i≤(aa.aD h).length∧P.length=((4*h.w*h.h).toNat)∧a+aa.mT (aa.bitsOf h) ((aa.aD h).drop i)≤z.1.length∧(∀w0 h,(Row U5 qz z.1.length cqz z.1) w0 h→aE U5 pz (z.1.length-a) (z.1.drop a) w0 h)∧z.1.length-a≤cz∧aa.fy ⟨h,pl,tr⟩ z.1 ((aa.aD h).drop i) a P=RES) (fun(i:Nat) (a:Nat) (pz:Option Addr) (cz:Nat) (P:List Int)=>(aa.aD h).length-i) (i5 (0) (0) (qz) (cqz) (aa.kI h) ?_ (fF (bb ln)) (sub (.cons Nd (.cons IG (.cons aL (an (.cons ar (.cons ar (.cons ar (.cons dJ (.cons dJ .nil))))))))) aj)) ?_
   ·exact⟨Nat.zero_le _,List.length_replicate,by rw[List.drop_zero];show 0+_≤_;omega,(fun _ _ hh=>hh.rd),hcz0,hRES.symm⟩
   intro i a pz cz P
   rintro⟨hi,hPl,hat,hzr,hzc,hres⟩
   refine(Qs) ?_
   refine av rfl (fun h91=>?_) (fun h91=>?_)
   ·refine(Qb) ?_
    obtain⟨x,hx⟩:∃x,x=(PK.g (aa.aD h) (i:Int)):=⟨_,rfl⟩
    have hx2:x=(aa.aD h).getD i ⟨0,0,0,0,0,0⟩:=hx
    have hxi:=hps.1 x (hx2▸aa.AU omg)
    have hne:=aa.IX (bits:=aa.bitsOf h) omg hx2
    refine(QF) ?_
    refine oV (xI V.vL (own dz))<|oV (cn (v:=.agg #[I6 x.x,I6 x.y,I6 x.dx,I6 x.dy,I6 x.w,I6 x.h]) (mU (c:=PK) V.a145 rfl (own dz) omg omg rfl) (by rw[hx]))<|de V.z145 rfl ?_
    intro b12
    refine(Ts)<|(Q9) ?_
    rcases(aa.acp (aa.ez ⟨h,pl,tr⟩ z.1 (aa.lf h x) (aa.nI h) x x.h.toNat 0 a [] P)) with hr|⟨a2,P2,hr⟩
    ·refine(Q3)<|(sa)<|(Ta)<|(Q8) ?_
     refine aQ (PR h bf pp pl cp pt tr ct pd Z.length cd pk ck R hP hT hcp hB hBt hpl htl Rk hRk hf hs (soz bq) ((4*h.w*h.h).toNat) ((4*h.w*h.h).toNat) omg (Nat.le_refl _) P hPl x hxi.1 z.1 hzB hzl (aa.lf h x) (aa.xw hxi.2.1 hde) (aa.nI h) (aa.xS h) a (by rw[hne] at hat;unfold aa.lf;omega) pz cz (Row U5 qz z.1.length cqz z.1) hzr hzc hr) V.ZZ rfl (.cons nQ (.cons aL (.cons jX (.cons cB (.cons jX .nil))))) rfl ?_
     rintro _ _ ⟨rfl,P2,hP2,rfl⟩
     refine(QO)<|(ng) ?_
     refine cC (aZ V.ff rfl rfl (us:=[_,_,_]) rfl rfl (by exact Zt) (by exact Nat.le_of_ble_eq_true rfl) rfl)<|(Qn) ?_
     rw[aa.zO (f:=⟨h,pl,tr⟩) h1 h2 (hRES.symm.trans (aa.Ba (f:=⟨h,pl,tr⟩) omg hx2 hr hres))]
     exact af (cH V.ff rfl ZM rfl rfl) ⟨none,0,0,rfl,rfl,Nat.le_refl _,rfl⟩ ((bH (A:=Row (aK 62 .u16) none 0 0 []) (fun w0=>Row.nil _ _ _)).trans (sub (an .nil) VO))
    ·refine(Q3)<|(sa)<|(Ta)<|(Q8) ?_
     refine aQ (P0 h bf pp pl cp pt tr ct pd Z.length cd pk ck R hP hT hcp hB hBt hpl htl Rk hRk hf hs (soz bq) ((4*h.w*h.h).toNat) ((4*h.w*h.h).toNat) omg (Nat.le_refl _) P hPl x hxi.1 z.1 hzB hzl (aa.lf h x) (aa.xw hxi.2.1 hde) (aa.nI h) (aa.xS h) a (by rw[hne] at hat;unfold aa.lf;omega) pz cz (Row U5 qz z.1.length cqz z.1) hzr hzc a2 P2 hr) V.ZZ rfl (.cons nQ (.cons aL (.cons jX (.cons cB (.cons jX .nil))))) rfl ?_
     rintro _ _ ⟨pz2,cz2,hP2,ha2,hz2,hcz2,rfl,rfl⟩
     exact jC TT 21 rfl omg<|j5 (i+1) a2 pz2 cz2 P2 ⟨⟨omg,hP2,by rw[ha2];rw[hne] at hat;unfold aa.lf;omega,hz2,hcz2,aa.Jq (f:=⟨h,pl,tr⟩) omg hx2 hr hres⟩,omg⟩ (fF (bb ln)) (sub (.cons nQ (.cons ar (.cons jX (.cons aL (.cons gW (aJ (.cons aL (.cons dJ .nil)))))))) bg)
   ·refine(Qr)<|(wQ)<|(yT)<|(Q7) ?_
    rw[aa.Fb (f:=⟨h,pl,tr⟩) h1 h2 (hRES.symm.trans (aa.IE omg hres))]
    exact af (cH V.ff rfl ic rfl rfl) ⟨_,_,_,rfl,hPl,Nat.le_refl _,rfl⟩ (sub (.cons ar .nil) Ng)
def Te(p:Option Addr)(c:Nat)(B:List Int)(R:ad)(hR:∀w0 h,R w0 h→aE U5 p B.length B w0 h)(hl:B.length<500000000)(hB:ag.aq B)(hcap:B.length≤c)(e:Int)(hc:aa.cut B=.error e):aA Tryz.prog 37 [.slice p B.length c] [R] (aF fun v G=>v=.tuple #[.slice none 0 0,I6 e]∧G=[R]):=by
 refine(N9 p c B R hR hl hB hcap).mono ?_
 rintro e2 G ⟨v,rfl,(⟨e',h,rfl,rfl⟩|⟨q,cq,es,h,_⟩)⟩
 ·rw[hc] at h;cases h;exact⟨_,rfl,rfl,rfl⟩
 ·rw[hc] at h;cases h
def SK(p:Option Addr)(c:Nat)(B:List Int)(R:ad)(hR:∀w0 h,R w0 h→aE U5 p B.length B w0 h)(hl:B.length<500000000)(hB:ag.aq B)(hcap:B.length≤c)(l:List aa.Ch)(hc:aa.cut B=.ok l):aA Tryz.prog 37 [.slice p B.length c] [R] (aF fun v G=>∃q cq,∃es:List Ce,l=es.map Ce.ch∧es.length≤262144∧(∀y∈es,Ee y)∧v=.tuple #[.slice q es.length cq,I6 0]∧G=[Row CK q es.length cq es,DK es,R]):=by
 refine(N9 p c B R hR hl hB hcap).mono ?_
 rintro e2 G ⟨v,rfl,(⟨e',h,_⟩|⟨q,cq,es,h,h1,h2,rfl,rfl⟩)⟩
 ·rw[hc] at h;cases h
 ·rw[hc] at h;cases h;exact⟨_,rfl,q,cq,es,rfl,h1,h2,rfl,rfl⟩
def oA{B:List Int}{es:List Ce}(hB:ag.aq B)(hc:aa.cut B=.ok (es.map Ce.ch)):Hz es:=fun x hx=>aa.Yg hB hc x.ch (List.mem_map_of_mem hx)
def sO(es:List Ce):aa.ed (es.map Ce.ch)=(CK.g es 0).d:=by
 unfold aa.ed
 cases es<;>rfl
def Wn{es:List Ce}(h:0<es.length):CK.g es 0∈es:=by
 match es,h with
 |x::es,_=>exact List.mem_cons_self ..
def xZ{es:List Ce}{s:sj}(hs:oa es es.length s)(ho:aa.dH (es.map Ce.ch)=true):s.P=aa.bY (es.map Ce.ch) aa.aR∧s.T=aa.bY (es.map Ce.ch) aa.ba∧s.D=aa.bS (es.map Ce.ch)∧s.hp=aa.eM (es.map Ce.ch) aa.aR∧s.ht=aa.eM (es.map Ce.ch) aa.ba:=by
 obtain⟨h1,h2,h3,h4,h5,_⟩:=hs
 have e:(es.map Ce.ch).take es.length=es.map Ce.ch:=List.take_of_length_le (by rw[List.length_map];exact Nat.le_refl _)
 rw[e] at h1 h2 h3 h4 h5
 have hl:=aa.J9 ho
 exact⟨h1.trans hl.1,h2.trans hl.2,h3,h4,h5⟩
def uv(h:aa.Hd)(hd:aa.jz h.dep)(bf:Nat)(pp:Option Addr)(pl:List Int)(cp:Nat)(pt:Option Addr)(tr:List Int)(ct:Nat)(pd:Option Addr)(nd cd:Nat)(pk:Option Addr)(nk ck:Nat)(hl:pl.length<500000000)(has:Bool)(t:Bool)(ht:t=decide (aa.eZ h pl has)):aA Tryz.prog 40 [.pointer (soz bf),.bool has] [ai bf 90 (hVz h.w h.h h.dep h.ak h.aV pp pl.length cp pt tr.length ct [.slice pd nd cd,.slice pk nk ck])] (aF fun v G=>v=.bool t∧G=[ai bf 90 (hVz h.w h.h h.dep h.ak h.aV pp pl.length cp pt tr.length ct [.slice pd nd cd,.slice pk nk ck])]):=by
 cases has with
 |true=>exact Ik h hd bf pp pl cp pt tr ct pd nd cd pk nk ck hl t ht
 |false=>exact I0 h hd bf pp pl cp pt tr ct pd nd cd pk nk ck hl t ht
def Am(h:aa.Hd)(hd:aa.jz h.dep)(bf:Nat)(pp:Option Addr)(pl:List Int)(cp:Nat)(pt:Option Addr)(tr:List Int)(ct:Nat)(pd:Option Addr)(nd cd:Nat)(hpl:pl.length<500000000)(htl:tr.length<500000000)(hB:ag.aq tr)(R:ad)(hR:∀w0 h,R w0 h→aE U5 pt tr.length tr w0 h)(is:Bool)(hi:is=false→tr=[])(t:Bool)(ht:t=decide (aa.gK h pl tr is)):aA Tryz.prog 41 [.pointer (soz bf),.bool is] [ai bf 90 (hVz h.w h.h h.dep h.ak h.aV pp pl.length cp pt tr.length ct [.slice pd nd cd,.slice none 0 0]),R] (aF fun v G=>∃pk nk ck K,(t=true→K=aa.bd h tr)∧K.length=nk∧v=.bool t∧G=[ai bf 90 (hVz h.w h.h h.dep h.ak h.aV pp pl.length cp pt tr.length ct [.slice pd nd cd,.slice pk nk ck]),Row (aK 3 .i64) pk nk ck K,R]):=by
 cases is with
 |true=>exact Fe h hd bf pp pl cp pt tr ct pd nd cd hpl htl hB R hR t ht
 |false=>
  have e:=Fc h hd bf pp pl cp pt tr ct pd nd cd hpl (hi rfl) htl hB t (ht.trans (decide_eq_true (aa.JB h pl tr)))
  refine(e.frame [R]).mono ?_
  rintro e2 G ⟨v,rfl,G',⟨pk,nk,ck,K,h1,h2,h3,rfl⟩,rfl⟩
  exact⟨_,rfl,pk,nk,ck,K,h1,h2,h3,rfl⟩

def va(p:Option Addr)(c:Nat)(B:List Int)(R:ad)(hR:∀w0 h,R w0 h→aE U5 p B.length B w0 h)(hl:B.length<500000000)(hB:ag.aq B)(hcap:B.length≤c)(r:aa.r5×Int)(hr0:aa.lg B r):aA Tryz.prog 14 [.slice p B.length c] [R] (aF fun v G=>∃q n c2,v=.tuple #[.agg #[I6 r.1.w,I6 r.1.h,.slice q n c2],I6 r.2]∧r.1.cN.length=n∧n≤c2∧G=[Row (aK 62 .u16) q n c2 r.1.cN,R]):=by
 refine ao [(0,_)] Tryz.func14 rfl Tryz.ntmps14 rfl rfl ?_
 intro w0 F
 refine(QK)<|(ti) ?_
 intro b2
 refine(Qc) ?_
 rcases(hr0.Wu) with⟨e,h1,hr⟩|⟨l,h1,ho,hr⟩|⟨l,h1,ho,hh,hr⟩|⟨l,h1,ho,hh,ht,hr⟩|⟨l,h1,ho,hh,ht,hc,hr⟩|⟨l,z,h1,ho,hh,ht,hc,hz,hr⟩
 ·refine(Q3) ?_
  refine oC (Te p c B R hR hl hB hcap e h1) V.b37 rfl (.cons ar .nil) rfl<|(Qj) ?_
  refine oV (bQ (bO rfl rfl) (aa.xd h1))<|(Q6)<|(ng)<|(Q8)<|(Zn)<|(Q6) ?_
  subst hr
  exact af (cH V.ff rfl cX rfl rfl) ⟨none,0,0,rfl,rfl,Nat.le_refl _,rfl⟩ ((bH (A:=Row (aK 62 .u16) none 0 0 []) (fun w0=>Row.nil _ _ _)).trans (sub (aJ .nil) bg))
 ·refine(Q3)<|(Gu) ?_
  rintro _ _ ⟨q13,c13,es,rfl,hel,hco,rfl,rfl⟩
  refine(Qj)<|(uH)<|(Qd) ?_
  refine fe (fun w hi=>eb hi (show Row CK q13 es.length c13 es∈_ by exact ay)) (fun hcq=>?_)
  refine(Q5)<|(Hq) ?_
  rw[aa.eU ho]
  refine(Q1) ?_
  refine oV (bQ (bO rfl rfl) dec)<|(Q6)<|(ng)<|(Q8)<|(ME)<|(Q6) ?_
  subst hr
  exact af (cH V.ff rfl fX rfl rfl) ⟨none,0,0,rfl,rfl,Nat.le_refl _,rfl⟩ ((bH (A:=Row (aK 62 .u16) none 0 0 []) (fun w0=>Row.nil _ _ _)).trans (sub (an (.cons aL .nil)) iW))
 ·refine(Q3)<|(Gu) ?_
  rintro _ _ ⟨q13,c13,es,rfl,hel,hco,rfl,rfl⟩
  refine(Qj)<|(uH)<|(Qd) ?_
  refine fe (fun w hi=>eb hi (show Row CK q13 es.length c13 es∈_ by exact ay)) (fun hcq=>?_)
  refine(Q5)<|(Hq) ?_
  rw[aa.lh ho]
  refine(Q1)<|(uH)<|(Q1) ?_
  have h3:0<es.length:=by have:=aa.o5 ho;rw[List.length_map] at this;omega
  refine(Ox)<|(tx)<|(Ni)<|(N7)<|(Qc) ?_
  refine de V.zc rfl ?_
  intro b7
  refine(za)<|(Qd) ?_
  refine oV (bQ (bO rfl rfl) (by rw[←sO];exact hh))<|(Q6)<|(ng)<|(Q8)<|(yT)<|(Q6) ?_
  rw[←sO]
  subst hr
  exact af (cH V.ff rfl ic rfl rfl) ⟨none,0,0,rfl,rfl,Nat.le_refl _,rfl⟩ ((bH (A:=Row (aK 62 .u16) none 0 0 []) (fun w0=>Row.nil _ _ _)).trans (sub (an (.cons cB .nil)) gF))
 ·refine(Q3)<|(Gu) ?_
  rintro _ _ ⟨q13,c13,es,rfl,hel,hco,rfl,rfl⟩
  refine(Qj)<|(uH)<|(Qd) ?_
  refine fe (fun w hi=>eb hi (show Row CK q13 es.length c13 es∈_ by exact ay)) (fun hcq=>?_)
  refine(Q5)<|(Hq) ?_
  rw[aa.lh ho]
  refine(Q1)<|(uH)<|(Q1) ?_
  have h3:0<es.length:=by have:=aa.o5 ho;rw[List.length_map] at this;omega
  obtain⟨h,hhd⟩:∃h,h=aa.aH (aa.ed (es.map Ce.ch)):=⟨_,rfl⟩
  rw[←hhd] at ht
  obtain⟨hde,hsz⟩:=aa.lB hh
  rw[←hhd] at hde hsz
  have hd:=aa.fO hde
  have hcl:=aa.ot h1
  refine(Ox)<|(tx)<|(Ni)<|(N7) ?_
  rw[←sO,hh,aa.pE hh,←hhd]
  refine(Qc) ?_
  refine de V.zc rfl ?_
  intro b7
  refine(za)<|(uI)<|(Qe)<|(WS) ?_
  rintro _ _ ⟨s,hs,rfl,rfl⟩
  refine(Q7) ?_
  refine de V.MA rfl ?_
  intro b8
  refine(Mf)<|(Q1)<|(WX) ?_
  refine oV (bP V.iS rfl)<|(za)<|(Q7) ?_
  obtain⟨eP,eT,eD,ep,et⟩:=xZ hs ho
  have hso:=hs
  obtain⟨_,_,_,_,_,hcp,hct,hrP,hrT⟩:=hso
  have hBP:ag.aq s.P:=eP▸aa.hG (aa.fi hB h1) _
  have hBT:ag.aq s.T:=eT▸aa.hG (aa.fi hB h1) _
  have hBD:ag.aq s.D:=eD▸aa.oL (aa.fi hB h1)
  have hlP:s.P.length<500000000:=by rw[eP];exact Nat.lt_of_le_of_lt aa.jd omg
  have hlT:s.T.length<500000000:=by rw[eT];exact Nat.lt_of_le_of_lt aa.jd omg
  have hlD:s.D.length<500000000:=by rw[eD];exact Nat.lt_of_le_of_lt (aa.mA _) omg
  have hn0:s.hp=false→s.P=[]:=fun q=>by rw[eP];exact aa.kc (ep.symm.trans q)
  have hn1:s.ht=false→s.T=[]:=fun q=>by rw[eT];exact aa.kc (et.symm.trans q)
  rw[←eP,←ep] at ht
  refine(Q5) ?_
  refine oC (uv h hd b8 s.pp s.P s.cp s.pt s.T s.ct s.pd s.D.length s.cd none 0 0 hlP s.hp false (decide_eq_false ht).symm) V.IH rfl (an .nil) rfl<|(Qj)<|(ng)<|(Q8u)<|(Q6) ?_
  subst hr
  exact af (cH V.ff rfl HY rfl rfl) ⟨none,0,0,rfl,rfl,Nat.le_refl _,rfl⟩ ((bH (A:=Row (aK 62 .u16) none 0 0 []) (fun w0=>Row.nil _ _ _)).trans (sub (an (.cons jX .nil)) GK))
 ·refine(Q3)<|(Gu) ?_
  rintro _ _ ⟨q13,c13,es,rfl,hel,hco,rfl,rfl⟩
  refine(Qj)<|(uH)<|(Qd) ?_
  refine fe (fun w hi=>eb hi (show Row CK q13 es.length c13 es∈_ by exact ay)) (fun hcq=>?_)
  refine(Q5)<|(Hq) ?_
  rw[aa.lh ho]
  refine(Q1)<|(uH)<|(Q1) ?_
  have h3:0<es.length:=by have:=aa.o5 ho;rw[List.length_map] at this;omega
  obtain⟨h,hhd⟩:∃h,h=aa.aH (aa.ed (es.map Ce.ch)):=⟨_,rfl⟩
  rw[←hhd] at ht
  obtain⟨hde,hsz⟩:=aa.lB hh
  rw[←hhd] at hde hsz
  have hd:=aa.fO hde
  have hcl:=aa.ot h1
  refine(Ox)<|(tx)<|(Ni)<|(N7) ?_
  rw[←sO,hh,aa.pE hh,←hhd]
  refine(Qc) ?_
  refine de V.zc rfl ?_
  intro b7
  refine(za)<|(uI)<|(Qe)<|(WS) ?_
  rintro _ _ ⟨s,hs,rfl,rfl⟩
  refine(Q7) ?_
  refine de V.MA rfl ?_
  intro b8
  refine(Mf)<|(Q1)<|(WX) ?_
  refine oV (bP V.iS rfl)<|(za)<|(Q7) ?_
  obtain⟨eP,eT,eD,ep,et⟩:=xZ hs ho
  have hso:=hs
  obtain⟨_,_,_,_,_,hcp,hct,hrP,hrT⟩:=hso
  have hBP:ag.aq s.P:=eP▸aa.hG (aa.fi hB h1) _
  have hBT:ag.aq s.T:=eT▸aa.hG (aa.fi hB h1) _
  have hBD:ag.aq s.D:=eD▸aa.oL (aa.fi hB h1)
  have hlP:s.P.length<500000000:=by rw[eP];exact Nat.lt_of_le_of_lt aa.jd omg
  have hlT:s.T.length<500000000:=by rw[eT];exact Nat.lt_of_le_of_lt aa.jd omg
  have hlD:s.D.length<500000000:=by rw[eD];exact Nat.lt_of_le_of_lt (aa.mA _) omg
  have hn0:s.hp=false→s.P=[]:=fun q=>by rw[eP];exact aa.kc (ep.symm.trans q)
  have hn1:s.ht=false→s.T=[]:=fun q=>by rw[eT];exact aa.kc (et.symm.trans q)
  rw[←eP,←ep] at ht
  rw[←hhd,←eP,←eT,←et] at hc
  refine rC TT 2 rfl ?_
  refine oC (uv h hd b8 s.pp s.P s.cp s.pt s.T s.ct s.pd s.D.length s.cd none 0 0 hlP s.hp true (decide_eq_true ht).symm) V.IH rfl (an .nil) rfl ?_
  refine rO TT 3 rfl ?_
  refine bB rfl ?_
  refine aQ (Am h hd b8 s.pp s.P s.cp s.pt s.T s.ct s.pd s.D.length s.cd hlP hlT hBT (DK es) hrT s.ht hn1 false (decide_eq_false hc).symm) V.b41 rfl (an (.cons aL .nil)) rfl ?_
  rintro _ _ ⟨pk,nk,ck,K,hK,hKn,rfl,rfl⟩
  refine(Qd)<|(ng) ?_
  refine cC (aZ V.ff rfl rfl (us:=[_,_,_]) rfl rfl (by exact pp7) (by exact Nat.le_of_ble_eq_true rfl) rfl)<|(Q6) ?_
  subst hr
  exact af (cH V.ff rfl MI rfl rfl) ⟨none,0,0,rfl,rfl,Nat.le_refl _,rfl⟩ ((bH (A:=Row (aK 62 .u16) none 0 0 []) (fun w0=>Row.nil _ _ _)).trans (sub (an (.cons nQ .nil)) ML))
 ·refine(Q3)<|(Gu) ?_
  rintro _ _ ⟨q13,c13,es,rfl,hel,hco,rfl,rfl⟩
  refine(Qj)<|(uH)<|(Qd) ?_
  refine fe (fun w hi=>eb hi (show Row CK q13 es.length c13 es∈_ by exact ay)) (fun hcq=>?_)
  refine(Q5)<|(Hq) ?_
  rw[aa.lh ho]
  refine(Q1)<|(uH)<|(Q1) ?_
  have h3:0<es.length:=by have:=aa.o5 ho;rw[List.length_map] at this;omega
  obtain⟨h,hhd⟩:∃h,h=aa.aH (aa.ed (es.map Ce.ch)):=⟨_,rfl⟩
  rw[←hhd] at ht
  obtain⟨hde,hsz⟩:=aa.lB hh
  rw[←hhd] at hde hsz
  have hd:=aa.fO hde
  have hcl:=aa.ot h1
  refine(Ox)<|(tx)<|(Ni)<|(N7) ?_
  rw[←sO,hh,aa.pE hh,←hhd]
  refine(Qc) ?_
  refine de V.zc rfl ?_
  intro b7
  refine(za)<|(uI)<|(Qe)<|(WS) ?_
  rintro _ _ ⟨s,hs,rfl,rfl⟩
  refine(Q7) ?_
  refine de V.MA rfl ?_
  intro b8
  refine(Mf)<|(Q1)<|(WX) ?_
  refine oV (bP V.iS rfl)<|(za)<|(Q7) ?_
  obtain⟨eP,eT,eD,ep,et⟩:=xZ hs ho
  have hso:=hs
  obtain⟨_,_,_,_,_,hcp,hct,hrP,hrT⟩:=hso
  have hBP:ag.aq s.P:=eP▸aa.hG (aa.fi hB h1) _
  have hBT:ag.aq s.T:=eT▸aa.hG (aa.fi hB h1) _
  have hBD:ag.aq s.D:=eD▸aa.oL (aa.fi hB h1)
  have hlP:s.P.length<500000000:=by rw[eP];exact Nat.lt_of_le_of_lt aa.jd omg
  have hlT:s.T.length<500000000:=by rw[eT];exact Nat.lt_of_le_of_lt aa.jd omg
  have hlD:s.D.length<500000000:=by rw[eD];exact Nat.lt_of_le_of_lt (aa.mA _) omg
  have hn0:s.hp=false→s.P=[]:=fun q=>by rw[eP];exact aa.kc (ep.symm.trans q)
  have hn1:s.ht=false→s.T=[]:=fun q=>by rw[eT];exact aa.kc (et.symm.trans q)
  rw[←eP,←ep] at ht
  rw[←hhd,←eP,←eT,←et] at hc
  refine rC TT 2 rfl ?_
  refine oC (uv h hd b8 s.pp s.P s.cp s.pt s.T s.ct s.pd s.D.length s.cd none 0 0 hlP s.hp true (decide_eq_true ht).symm) V.IH rfl (an .nil) rfl ?_
  refine rO TT 3 rfl ?_
  refine bB rfl ?_
  refine aQ (Am h hd b8 s.pp s.P s.cp s.pt s.T s.ct s.pd s.D.length s.cd hlP hlT hBT (DK es) hrT s.ht hn1 true (decide_eq_true hc).symm) V.b41 rfl (an (.cons aL .nil)) rfl ?_
  rintro _ _ ⟨pk,nk,ck,K,hK,rfl,rfl,rfl⟩
  obtain rfl:=hK rfl
  refine(Qe) ?_
  refine fe (fun w hi=>eb hi (show Row U5 s.pd s.D.length s.cd s.D∈_ by exact fX)) (fun hcD=>?_)
  refine(QF) ?_
  refine aQ (T7 h b8 s.pp s.P s.cp s.pt s.T s.ct s.pd s.cd pk ck (DK es) hrP hrT hcp hBP hBT hlP hlT (Row (aK 3 .i64) pk (aa.bd h s.T).length ck (aa.bd h s.T)) (fun _ _ hh=>hh.rd) (aa.CO hde hBP hBT hlP hlT ht hc hn0 hn1) hsz s.D hBD hlD hcD (Row U5 s.pd s.D.length s.cd s.D) (fun _ _ hh=>hh.rd) z (by rw[eD,hhd];exact hz)) V.b42 rfl (aJ (.cons ar (.cons dJ .nil))) rfl ?_
  rintro _ _ ⟨q55,n55,c55,rfl,hn55,hc55,rfl⟩
  refine(Q9)<|(yT)<|(Q7) ?_
  rw[aa.HL hhd eP eT] at hr
  subst hr
  exact af (cH V.ff rfl ic rfl rfl) ⟨q55,n55,c55,rfl,hn55,hc55,rfl⟩ (sub (an (.cons aL .nil)) iW)
end Go.Proofs.YtmaiakpjgomnpaaGreat
namespace Go.Proofs.YtmaiakpjgomnpaaGreat
open Go.Sl
def V.r8:az Tryz.prog 18=true:=by kernel_rfl
def V.b29:az Tryz.prog 29=true:=by kernel_rfl
def V.Zd:az Tryz.prog 35=true:=by kernel_rfl
def V.NX:az Tryz.prog 43=true:=by kernel_rfl
def V.b44:az Tryz.prog 44=true:=by kernel_rfl
def V.CX:az Tryz.prog 45=true:=by kernel_rfl
def V.EN:az Tryz.prog 46=true:=by kernel_rfl
def V.b47:az Tryz.prog 47=true:=by kernel_rfl
def V.b48:az Tryz.prog 48=true:=by kernel_rfl
def V.b49:az Tryz.prog 49=true:=by kernel_rfl
def V.b51:az Tryz.prog 51=true:=by kernel_rfl
def V.Zz:az Tryz.prog 52=true:=by kernel_rfl
def V.NQ:az Tryz.prog 53=true:=by kernel_rfl
def V.aeI:bo Tryz.prog 38 4=some 4:=by kernel_rfl
end Go.Proofs.YtmaiakpjgomnpaaGreat
namespace Go.Proofs.YtmaiakpjgomnpaaGreat
open Go.Sl 
attribute [local irreducible] ag.aq aa.bD aa.cL aa.deep aa.parts HW aa.bd aa.gB aa.aM aa.fm aa.fP aa.ez aa.ko aa.j6 aa.ee aa.eC aa.fy aa.nt aa.want aa.aD aa.lf aa.nI aa.mT aa.jt aC.nb aa.aW aa.aR aa.ba aa.aY aa.bM aa.eH aa.eZ aa.gK aa.oF aa.bS aa.dH aa.cut aa.ed aa.zk aa.bY aa.eM
def TG(p:Option Addr)(c:Nat)(B:List Int)(R:ad)(hR:∀w0 h,R w0 h→aE U5 p B.length B w0 h)(hl:B.length<500000000)(hB:ag.aq B)(hcap:B.length≤c)(e:Int)(hc:aa.cut B=.error e):aA Tryz.prog 43 [.slice p B.length c] [R] (aF fun v G=>v=.tuple #[.slice none 0 0,I6 e]∧G=[R]):=by
  refine(Nz p c B R hR hl hB hcap).mono ?_
  rintro e2 G ⟨v,rfl,(⟨e',h,rfl,rfl⟩|⟨q,cq,es,h,_⟩)⟩
  · rw[hc] at h;cases h;exact⟨_,rfl,rfl,rfl⟩
  · rw[hc] at h;cases h
def UQ(p:Option Addr)(c:Nat)(B:List Int)(R:ad)(hR:∀w0 h,R w0 h→aE U5 p B.length B w0 h)(hl:B.length<500000000)(hB:ag.aq B)(hcap:B.length≤c)(l:List aa.Ch)(hc:aa.cut B=.ok l):aA Tryz.prog 43 [.slice p B.length c] [R] (aF fun v G=>∃q cq,∃es:List Ce,l=es.map Ce.ch∧es.length≤262144∧v=.tuple #[.slice q es.length cq,I6 0]∧G=[Row aP q es.length cq es,DK es,R]):=by
  refine(Nz p c B R hR hl hB hcap).mono ?_
  rintro e2 G ⟨v,rfl,(⟨e',h,_⟩|⟨q,cq,es,h,h1,rfl,rfl⟩)⟩
  · rw[hc] at h;cases h
  · rw[hc] at h;cases h;exact⟨_,rfl,q,cq,es,rfl,h1,rfl,rfl⟩
def EI(w h:Int)(hs:aa.bD w h=0):aA Tryz.prog 35 [I6 w,I6 h] [] (aF fun v G=>∃b:Nat,v=.tuple #[.agg #[I6 w,I6 h,.slice (soz b) ((4*w*h).toNat) ((4*w*h).toNat)],I6 0]∧G=[Row (aK 62 .u16) (soz b) ((4*w*h).toNat) ((4*w*h).toNat) (List.replicate ((4*w*h).toNat) 0)]):=by
  refine(Ym w h).mono ?_
  rintro e2 G ⟨v,rfl,(⟨h1,_⟩|⟨_,b,rfl,rfl⟩)⟩
  · exact absurd hs h1
  · exact⟨_,rfl,b,rfl,rfl⟩
def OX(kind:Int)(p1:Option Addr)(c1 n1:Nat)(L1:List Int)(R1:ad)(hR1:∀w0 h,R1 w0 h→aE U5 p1 n1 L1 w0 h)(hn1:L1.length=n1)(hB1:ag.aq L1)(p2:Option Addr)(c2 n2:Nat)(L2:List Int)(R2:ad)(hR2:∀w0 h,R2 w0 h→aE U5 p2 n2 L2 w0 h)(hn2:L2.length=n2)(hB2:ag.aq L2)(back:Nat)(hbk:1≤back∧back≤8)(h2:n2=0∨n2=n1)(hk:0≤kind)(hn1s:n1<500000000)(hq:4<kind):aA Tryz.prog 51 [I6 kind,.slice p1 n1 c1,.slice p2 n2 c2,I6 (back:Int)] [R1,R2] (aF fun v G=>v=.tuple #[.slice none 0 0,.bool false]∧G=[R1,R2]):=by
  refine(Q8w) ?_
  rintro e2 G ⟨v,rfl,(⟨_,rfl,rfl⟩|⟨h,_⟩)⟩
  · exact⟨_,rfl,rfl,rfl⟩
  · exact absurd hq h
def RG(kind:Int)(p1:Option Addr)(c1 n1:Nat)(L1:List Int)(R1:ad)(hR1:∀w0 h,R1 w0 h→aE U5 p1 n1 L1 w0 h)(hn1:L1.length=n1)(hB1:ag.aq L1)(p2:Option Addr)(c2 n2:Nat)(L2:List Int)(R2:ad)(hR2:∀w0 h,R2 w0 h→aE U5 p2 n2 L2 w0 h)(hn2:L2.length=n2)(hB2:ag.aq L2)(back:Nat)(hbk:1≤back∧back≤8)(h2:n2=0∨n2=n1)(hk:0≤kind)(hn1s:n1<500000000)(hq:¬4<kind):aA Tryz.prog 51 [I6 kind,.slice p1 n1 c1,.slice p2 n2 c2,I6 (back:Int)] [R1,R2] (aF fun v G=>∃a:Option Addr×Nat,v=.tuple #[.slice a.1 n1 a.2,.bool true]∧G=[Row U5 a.1 n1 a.2 (aa.ee kind L1 L2 back),R1,R2]):=by
  refine(Q8w) ?_
  rintro e2 G ⟨v,rfl,(⟨h,_⟩|⟨_,q,cq,rfl,rfl⟩)⟩
  · exact absurd h hq
  · exact⟨_,rfl,(q,cq),rfl,rfl⟩
def T4(h:aa.Hd)(pr:Option Addr)(row:List Int)(cr:Nat)(x:Nat)(pp:Option Addr)(pl:List Int)(cp:Nat)(pt:Option Addr)(tr:List Int)(ct:Nat)(Rr R:ad)(hRr:∀w0 h,Rr w0 h→aE U5 pr row.length row w0 h)(hP:∀w0 h,R w0 h→aE U5 pp pl.length pl w0 h)(hT:∀w0 h,R w0 h→aE U5 pt tr.length tr w0 h)(hf:aa.fm ⟨h,pl,tr⟩)(hrl:row.length<500000000)(hBr:ag.aq row)(hx:x<1000)(hbits:x*(aa.parts h.ak).toNat*h.dep.toNat+(aa.parts h.ak).toNat*h.dep.toNat≤8*row.length)(nl:Nat)(hnl:row.length=nl)(hpx:aa.gB ⟨h,pl,tr⟩ (aa.aM h row x)=none):aA Tryz.prog 52 [.agg #[I6 h.w,I6 h.h,I6 h.dep,I6 h.ak,.bool h.aV],.slice pr nl cr,I6 (x:Int),.slice pp pl.length cp,.slice pt tr.length ct] [Rr,R] (aF fun e G=>e=.tuple #[.agg #[.int .u16 0,.int .u16 0,.int .u16 0,.int .u16 0],.bool false]∧G=[Rr,R]):=by
  subst hnl
  refine(yg h pr row cr x pp pl cp pt tr ct Rr R hRr hP hT hf hrl hBr hx hbits).mono ?_
  rintro e2 G ⟨v,rfl,(⟨_,rfl,rfl⟩|⟨a,b,c,d,h,_⟩)⟩
  · exact⟨_,rfl,rfl,rfl⟩
  · rw[hpx] at h;cases h
def Ub(h:aa.Hd)(pr:Option Addr)(row:List Int)(cr:Nat)(x:Nat)(pp:Option Addr)(pl:List Int)(cp:Nat)(pt:Option Addr)(tr:List Int)(ct:Nat)(Rr R:ad)(hRr:∀w0 h,Rr w0 h→aE U5 pr row.length row w0 h)(hP:∀w0 h,R w0 h→aE U5 pp pl.length pl w0 h)(hT:∀w0 h,R w0 h→aE U5 pt tr.length tr w0 h)(hf:aa.fm ⟨h,pl,tr⟩)(hrl:row.length<500000000)(hBr:ag.aq row)(hx:x<1000)(hbits:x*(aa.parts h.ak).toNat*h.dep.toNat+(aa.parts h.ak).toNat*h.dep.toNat≤8*row.length)(nl:Nat)(hnl:row.length=nl)(c0 c1 c2 c3:Int)(hpx:aa.gB ⟨h,pl,tr⟩ (aa.aM h row x)=some [c0,c1,c2,c3]):aA Tryz.prog 52 [.agg #[I6 h.w,I6 h.h,I6 h.dep,I6 h.ak,.bool h.aV],.slice pr nl cr,I6 (x:Int),.slice pp pl.length cp,.slice pt tr.length ct] [Rr,R] (aF fun e G=>e=.tuple #[.agg #[.int .u16 c0,.int .u16 c1,.int .u16 c2,.int .u16 c3],.bool true]∧G=[Rr,R]):=by
  subst hnl
  refine(yg h pr row cr x pp pl cp pt tr ct Rr R hRr hP hT hf hrl hBr hx hbits).mono ?_
  rintro e2 G ⟨v,rfl,(⟨h,_⟩|⟨a,b,c,d,h,rfl,rfl⟩)⟩
  · rw[hpx] at h;cases h
  · rw[hpx] at h
    obtain⟨rfl,rfl,rfl,rfl⟩:=aa.vS h
    exact⟨_,rfl,rfl,rfl⟩
def sU(es:List Ce):aa.ed (es.map Ce.ch)=(aP.g es 0).d:=by
  unfold aa.ed
  cases es<;>rfl
def SO{es:List Ce}(h:0<es.length):aP.g es 0∈es:=by
  match es,h with
  |x::es,_=>exact List.mem_cons_self ..

def Xp(p:Option Addr)(c:Nat)(B:List Int)(R:ad)(hR:∀w0 h,R w0 h→aE U5 p B.length B w0 h)(hl:B.length<500000000)(hB:ag.aq B)(hcap:B.length≤c)(r:aa.r5×Int)(hr0:aa.lg B r):aA Tryz.prog 15 [.slice p B.length c] [R] (aF fun v G=>∃q n c2,v=.tuple #[.agg #[I6 r.1.w,I6 r.1.h,.slice q n c2],I6 r.2]∧r.1.cN.length=n∧n≤c2∧G=[Row (aK 62 .u16) q n c2 r.1.cN,R]):=by
  refine ao [(0,_)] Tryz.func15 rfl Tryz.ntmps15 rfl rfl ?_
  intro w0 F
  refine(QK)<|(ti) ?_
  intro b2
  refine(Qc) ?_
  rcases(hr0.Wu) with⟨e,h1,hr⟩|⟨l,h1,ho,hr⟩|⟨l,h1,ho,hh,hr⟩|⟨l,h1,ho,hh,ht,hr⟩|⟨l,h1,ho,hh,ht,hc,hr⟩|⟨l,z,h1,ho,hh,ht,hc,hz,hr⟩
  ·
    refine(Q3) ?_
    refine oC (TG p c B R hR hl hB hcap e h1) V.NX rfl (.cons ar .nil) rfl<|(Qj) ?_
    refine oV (bC (bG rfl rfl) (aa.xd h1))<|(Qn) ?_
    refine oV (bQ (bO rfl rfl) (aa.xd h1))<|(Q6)<|(ng)<|(Q8)<|(Zn)<|(Q6) ?_
    subst hr
    exact af (cH V.ff rfl cX rfl rfl) ⟨none,0,0,rfl,rfl,Nat.le_refl _,rfl⟩ ((bH (A:=Row (aK 62 .u16) none 0 0 []) (fun w0=>Row.nil _ _ _)).trans (sub (aJ .nil) bg))
  ·
    refine(Q3)<|(Jh) ?_
    rintro _ _ ⟨q4,c4,es,rfl,hel,rfl,rfl⟩
    refine(Qj)<|(EM)<|(Qc) ?_
    refine fe (fun w hi=>eb hi (show Row aP q4 es.length c4 es∈_ by exact ay)) (fun hcq=>?_)
    refine(Q5)<|(Ju) ?_
    rw[aa.eU ho]
    refine(Qd) ?_
    refine oV (bQ (bO rfl rfl) dec)<|(Q6)<|(ng)<|(Q8)<|(ME)<|(Q6) ?_
    subst hr
    exact af (cH V.ff rfl fX rfl rfl) ⟨none,0,0,rfl,rfl,Nat.le_refl _,rfl⟩ ((bH (A:=Row (aK 62 .u16) none 0 0 []) (fun w0=>Row.nil _ _ _)).trans (sub (an (.cons aL .nil)) iW))
  ·
    refine(Q3)<|(Jh) ?_
    rintro _ _ ⟨q4,c4,es,rfl,hel,rfl,rfl⟩
    refine(Qj)<|(EM)<|(Qc) ?_
    refine fe (fun w hi=>eb hi (show Row aP q4 es.length c4 es∈_ by exact ay)) (fun hcq=>?_)
    refine(Q5)<|(Ju) ?_
    rw[aa.lh ho]
    refine(uI)<|(Q1) ?_
    have h3:0<es.length:=by have:=aa.o5 ho;rw[List.length_map] at this;omega
    refine(Mq)<|(sY)<|(Nw)<|(MN)<|(Qc) ?_
    refine de V.uF rfl ?_
    intro b6
    refine(Jg)<|(Qd) ?_
    refine oV (bQ (bO rfl rfl) (by rw[←sU];exact hh))<|(Q6)<|(ng)<|(Q8)<|(yT)<|(Q6) ?_
    rw[←sU]
    subst hr
    exact af (cH V.ff rfl ic rfl rfl) ⟨none,0,0,rfl,rfl,Nat.le_refl _,rfl⟩ ((bH (A:=Row (aK 62 .u16) none 0 0 []) (fun w0=>Row.nil _ _ _)).trans (sub (an (.cons cB .nil)) gF))
  ·
    refine(Q3)<|(Jh) ?_
    rintro _ _ ⟨q4,c4,es,rfl,hel,rfl,rfl⟩
    refine(Qj)<|(EM)<|(Qc) ?_
    refine fe (fun w hi=>eb hi (show Row aP q4 es.length c4 es∈_ by exact ay)) (fun hcq=>?_)
    refine(Q5)<|(Ju) ?_
    rw[aa.lh ho]
    refine(uI)<|(Q1) ?_
    have h3:0<es.length:=by have:=aa.o5 ho;rw[List.length_map] at this;omega
    obtain⟨h,hhd⟩:∃h,h=aa.aH (aa.ed (es.map Ce.ch)):=⟨_,rfl⟩
    obtain⟨pl,hpl⟩:∃l,l=aa.bY (es.map Ce.ch) aa.aR:=⟨_,rfl⟩
    obtain⟨tr,htr⟩:∃l,l=aa.bY (es.map Ce.ch) aa.ba:=⟨_,rfl⟩
    obtain⟨has,hhas⟩:∃l,l=aa.eM (es.map Ce.ch) aa.aR:=⟨_,rfl⟩
    obtain⟨is,his⟩:∃l,l=aa.eM (es.map Ce.ch) aa.ba:=⟨_,rfl⟩
    rw[←hhd,←hpl,←hhas] at ht
    obtain⟨hde,hsz⟩:=aa.lB hh
    rw[←hhd] at hde hsz
    have hd:=aa.fO hde
    have hcl:=aa.ot h1
    have hBP:ag.aq pl:=hpl▸aa.hG (aa.fi hB h1) _
    have hBT:ag.aq tr:=htr▸aa.hG (aa.fi hB h1) _
    have hlP:pl.length<500000000:=by rw[hpl];exact Nat.lt_of_le_of_lt aa.jd omg
    have hlT:tr.length<500000000:=by rw[htr];exact Nat.lt_of_le_of_lt aa.jd omg
    have hn0:has=false→pl=[]:=fun q=>by rw[hpl];exact aa.kc (hhas.symm.trans q)
    have hn1:is=false→tr=[]:=fun q=>by rw[htr];exact aa.kc (his.symm.trans q)
    refine(Mq)<|(sY)<|(Nw)<|(MN) ?_
    rw[←sU,hh,aa.pE hh,←hhd]
    refine(Qc) ?_
    refine de V.uF rfl ?_
    intro b6
    refine(Jg)<|(uI)<|(Qe)<|(W2) ?_
    rintro _ _ ⟨q7,c7,rfl,hrP,rfl⟩
    have eq7:([80,76,84,69]:List Int)=aa.aR:=by unfold aa.aR;rfl
    rw[eq7,←hpl] at hrP
    rw[eq7,←hpl,←hhas]
    refine(Qg)<|(WL) ?_
    rintro _ _ ⟨q9,c9,rfl,hrT,rfl⟩
    have eq9:([116,82,78,83]:List Int)=aa.ba:=by unfold aa.ba;rfl
    rw[eq9,←htr] at hrT
    rw[eq9,←htr,←his]
    refine(Qg)<|(Xb)<|(Q7) ?_
    refine oC (vk h hd q7 pl c7 has q9 tr c9 is hlP hlT false (decide_eq_false (fun q=>ht ((aa.iA ..).1 q).1)).symm) V.EN rfl .nil rfl<|(Q1)<|(ng)<|(yT)<|(Q6) ?_
    subst hr
    exact af (cH V.ff rfl ic rfl rfl) ⟨none,0,0,rfl,rfl,Nat.le_refl _,rfl⟩ ((bH (A:=Row (aK 62 .u16) none 0 0 []) (fun w0=>Row.nil _ _ _)).trans (sub (an (.cons cB .nil)) gF))
  ·
    refine(Q3)<|(Jh) ?_
    rintro _ _ ⟨q4,c4,es,rfl,hel,rfl,rfl⟩
    refine(Qj)<|(EM)<|(Qc) ?_
    refine fe (fun w hi=>eb hi (show Row aP q4 es.length c4 es∈_ by exact ay)) (fun hcq=>?_)
    refine(Q5)<|(Ju) ?_
    rw[aa.lh ho]
    refine(uI)<|(Q1) ?_
    have h3:0<es.length:=by have:=aa.o5 ho;rw[List.length_map] at this;omega
    obtain⟨h,hhd⟩:∃h,h=aa.aH (aa.ed (es.map Ce.ch)):=⟨_,rfl⟩
    obtain⟨pl,hpl⟩:∃l,l=aa.bY (es.map Ce.ch) aa.aR:=⟨_,rfl⟩
    obtain⟨tr,htr⟩:∃l,l=aa.bY (es.map Ce.ch) aa.ba:=⟨_,rfl⟩
    obtain⟨has,hhas⟩:∃l,l=aa.eM (es.map Ce.ch) aa.aR:=⟨_,rfl⟩
    obtain⟨is,his⟩:∃l,l=aa.eM (es.map Ce.ch) aa.ba:=⟨_,rfl⟩
    rw[←hhd,←hpl,←hhas] at ht
    obtain⟨hde,hsz⟩:=aa.lB hh
    rw[←hhd] at hde hsz
    have hd:=aa.fO hde
    have hcl:=aa.ot h1
    have hBP:ag.aq pl:=hpl▸aa.hG (aa.fi hB h1) _
    have hBT:ag.aq tr:=htr▸aa.hG (aa.fi hB h1) _
    have hlP:pl.length<500000000:=by rw[hpl];exact Nat.lt_of_le_of_lt aa.jd omg
    have hlT:tr.length<500000000:=by rw[htr];exact Nat.lt_of_le_of_lt aa.jd omg
    have hn0:has=false→pl=[]:=fun q=>by rw[hpl];exact aa.kc (hhas.symm.trans q)
    have hn1:is=false→tr=[]:=fun q=>by rw[htr];exact aa.kc (his.symm.trans q)
    rw[←hhd,←hpl,←htr,←his] at hc
    refine(Mq)<|(sY)<|(Nw)<|(MN) ?_
    rw[←sU,hh,aa.pE hh,←hhd]
    refine(Qc) ?_
    refine de V.uF rfl ?_
    intro b6
    refine(Jg)<|(uI)<|(Qe)<|(W2) ?_
    rintro _ _ ⟨q7,c7,rfl,hrP,rfl⟩
    have eq7:([80,76,84,69]:List Int)=aa.aR:=by unfold aa.aR;rfl
    rw[eq7,←hpl] at hrP
    rw[eq7,←hpl,←hhas]
    refine(Qg)<|(WL) ?_
    rintro _ _ ⟨q9,c9,rfl,hrT,rfl⟩
    have eq9:([116,82,78,83]:List Int)=aa.ba:=by unfold aa.ba;rfl
    rw[eq9,←htr] at hrT
    rw[eq9,←htr,←his]
    refine(Qg)<|(Xb)<|(Q7) ?_
    refine oC (vk h hd q7 pl c7 has q9 tr c9 is hlP hlT false (decide_eq_false (fun q=>hc ((aa.iA ..).1 q).2)).symm) V.EN rfl .nil rfl<|(Q1)<|(ng)<|(yT)<|(Q6) ?_
    subst hr
    exact af (cH V.ff rfl ic rfl rfl) ⟨none,0,0,rfl,rfl,Nat.le_refl _,rfl⟩ ((bH (A:=Row (aK 62 .u16) none 0 0 []) (fun w0=>Row.nil _ _ _)).trans (sub (an (.cons cB .nil)) gF))
  ·
    refine(Q3)<|(Jh) ?_
    rintro _ _ ⟨q4,c4,es,rfl,hel,rfl,rfl⟩
    refine(Qj)<|(EM)<|(Qc) ?_
    refine fe (fun w hi=>eb hi (show Row aP q4 es.length c4 es∈_ by exact ay)) (fun hcq=>?_)
    refine(Q5)<|(Ju) ?_
    rw[aa.lh ho]
    refine(uI)<|(Q1) ?_
    have h3:0<es.length:=by have:=aa.o5 ho;rw[List.length_map] at this;omega
    obtain⟨h,hhd⟩:∃h,h=aa.aH (aa.ed (es.map Ce.ch)):=⟨_,rfl⟩
    obtain⟨pl,hpl⟩:∃l,l=aa.bY (es.map Ce.ch) aa.aR:=⟨_,rfl⟩
    obtain⟨tr,htr⟩:∃l,l=aa.bY (es.map Ce.ch) aa.ba:=⟨_,rfl⟩
    obtain⟨has,hhas⟩:∃l,l=aa.eM (es.map Ce.ch) aa.aR:=⟨_,rfl⟩
    obtain⟨is,his⟩:∃l,l=aa.eM (es.map Ce.ch) aa.ba:=⟨_,rfl⟩
    rw[←hhd,←hpl,←hhas] at ht
    obtain⟨hde,hsz⟩:=aa.lB hh
    rw[←hhd] at hde hsz
    have hd:=aa.fO hde
    have hcl:=aa.ot h1
    have hBP:ag.aq pl:=hpl▸aa.hG (aa.fi hB h1) _
    have hBT:ag.aq tr:=htr▸aa.hG (aa.fi hB h1) _
    have hlP:pl.length<500000000:=by rw[hpl];exact Nat.lt_of_le_of_lt aa.jd omg
    have hlT:tr.length<500000000:=by rw[htr];exact Nat.lt_of_le_of_lt aa.jd omg
    have hn0:has=false→pl=[]:=fun q=>by rw[hpl];exact aa.kc (hhas.symm.trans q)
    have hn1:is=false→tr=[]:=fun q=>by rw[htr];exact aa.kc (his.symm.trans q)
    rw[←hhd,←hpl,←htr,←his] at hc
    refine(Mq)<|(sY)<|(Nw)<|(MN) ?_
    rw[←sU,hh,aa.pE hh,←hhd]
    refine(Qc) ?_
    refine de V.uF rfl ?_
    intro b6
    refine(Jg)<|(uI)<|(Qe)<|(W2) ?_
    rintro _ _ ⟨q7,c7,rfl,hrP,rfl⟩
    have eq7:([80,76,84,69]:List Int)=aa.aR:=by unfold aa.aR;rfl
    rw[eq7,←hpl] at hrP
    rw[eq7,←hpl,←hhas]
    refine(Qg)<|(WL) ?_
    rintro _ _ ⟨q9,c9,rfl,hrT,rfl⟩
    have eq9:([116,82,78,83]:List Int)=aa.ba:=by unfold aa.ba;rfl
    rw[eq9,←htr] at hrT
    rw[eq9,←htr,←his]
    refine(Qg)<|(Xb)<|(Q7) ?_
    refine oC (vk h hd q7 pl c7 has q9 tr c9 is hlP hlT true (decide_eq_true ((aa.iA ..).2 ⟨ht,hc⟩)).symm) V.EN rfl .nil rfl<|(Qd) ?_
    rw[hhd] at hsz hde
    rw[←hhd] at hsz hde
    have hwi:=aa.DB hsz hde
    have hlD:(aa.bS (es.map Ce.ch)).length<500000000:=Nat.lt_of_le_of_lt (aa.mA _) omg
    have hBD:ag.aq (aa.bS (es.map Ce.ch)):=aa.oL (aa.fi hB h1)
    have hsd:=aa.jj hsz
    have hs4:=aa.oX hsz
    have hps:=aa.jw hsz
    have hbits:=aa.l7 hde
    have hpc:=aa.fJ hde
    have hdi:=aa.iz hd
    have hf:=aa.CO hde hBP hBT hlP hlT ht hc hn0 hn1
    have hwn:=aa.yU hsz hde
    rw[aa.HL hhd hpl htr] at hr
    refine(lW)<|(wc) ?_
    rw[show Row U5 none 0 0 []=Row U5 none (aa.bS ((es.map Ce.ch).take 0)).length 0 (aa.bS ((es.map Ce.ch).take 0)) from by unfold aa.bS;rfl,show((11:Nat),Value.slice none 0 0)=(11,.slice none (aa.bS ((es.map Ce.ch).take 0)).length 0) from by unfold aa.bS;rfl]
    refine dP (fun(i:Nat) (pd:Option Addr) (cd:Nat)=>[(2,.pointer (soz b2)),(4,.slice q4 es.length c4),(6,.pointer (soz b6)),(7,.slice q7 pl.length c7),(9,.slice q9 tr.length c9),(11,.slice pd (aa.bS ((es.map Ce.ch).take i)).length cd),(12,I6 (i:Int))]) (fun(i:Nat) (pd:Option Addr) (cd:Nat)=>Row U5 pd (aa.bS ((es.map Ce.ch).take i)).length cd (aa.bS ((es.map Ce.ch).take i))::Row aP q4 es.length c4 es::DK es::ai b6 38 [I6 h.w,I6 h.h,I6 h.dep,I6 h.ak,.bool h.aV]::ai b2 26 [I6 0,I6 0,.slice none 0 0]::R::F) (fun(i:Nat) (pd:Option Addr) (cd:Nat)=>i≤es.length) (fun(i:Nat) (pd:Option Addr) (cd:Nat)=>es.length-i) (i3 (0) (none) (0) ?_ (fF (bb ln)) (sub (aJ (.cons ar (.cons dJ (.cons ar (.cons dJ .nil))))) aj)) ?_
    ·
      exact Nat.zero_le _
    intro i pd cd
    rintro hi
    refine(pe) ?_
    refine av rfl (fun h76=>?_) (fun h76=>?_)
    ·
      refine(Q4) ?_
      rcases(Classical.em ((aP.g es (i:Int)).k=aa.aW)) with hki|hkn
      ·
        refine(Qa) ?_
        have hcx:=nz (es:=es) (i:=i) omg
        have hxo:=jl (i:=i) (fun x=>ag.aq x.k∧x.k.length<500000000) (oA hB h1) omg
        have hxk:ag.aq (aP.g es (i:Int)).k:=hxo.1
        have hxm:=jl (i:=i) (fun x=>x∈es) (fun x hx=>hx) omg
        have hids:=aa.qv hcx
        refine(Q3) ?_
        refine oV (xI V.nL (own cX))<|(qu)<|(Q8y) ?_
        refine oV (fD (aa.aT hxk) (aa.aT aa.mM) rfl (show au _ _=some (.string (strOfNums aa.aW)) by unfold aa.aW;rfl) (decide_eq_true hki).symm)<|(Qc) ?_
        rw[if_pos (show(aP.g es (i:Int)).ch.k=aa.aW from hki)] at hids
        have hd1:=aa.mA ((es.map Ce.ch).take (i+1))
        have hd2:=aa.sX (es.map Ce.ch) (i+1)
        have hd3:((aa.bS ((es.map Ce.ch).take i))++(aP.g es (i:Int)).d).length=(aa.bS ((es.map Ce.ch).take i)).length+(aP.g es (i:Int)).d.length:=List.length_append
        have hd4:(aa.bS ((es.map Ce.ch).take i)).length+(aP.g es (i:Int)).d.length<500000000:=by rw[←hd3];exact Nat.lt_of_le_of_lt (by rw[hids] at hd1;exact hd1) omg
        refine(Q4) ?_
        refine oV (xI V.nL (own cX))<|(sY) ?_
        refine oV (fE (c:=(aP)) 1 V.kO rfl (own cX) omg omg rfl rfl)<|ei (c:=(U5)) V.bT V.z5 rfl rfl rfl rfl dJ (show Has _ _ U5 (aP.g es (i:Int)).p (aP.g es (i:Int)).d.length (aP.g es (i:Int)).d from Vs (f:=WC) dz hxm) omg rfl ?_
        intro p91 c91
        refine(QU) ?_
        (rw[←List.length_append,show(aa.bS ((es.map Ce.ch).take i))++(aP.g es (i:Int)).d=aa.bS ((es.map Ce.ch).take (i+1)) from hids.symm];exact j3 (i+1) _ _ ⟨omg,omg⟩ (fF (bb ln)) (sub (an (iV .nil)) aj))
      ·
        refine(Qa) ?_
        have hcx:=nz (es:=es) (i:=i) omg
        have hxo:=jl (i:=i) (fun x=>ag.aq x.k∧x.k.length<500000000) (oA hB h1) omg
        have hxk:ag.aq (aP.g es (i:Int)).k:=hxo.1
        have hxm:=jl (i:=i) (fun x=>x∈es) (fun x hx=>hx) omg
        have hids:=aa.qv hcx
        refine(Q3) ?_
        refine oV (xI V.nL (own cX))<|(qu)<|(Q8y) ?_
        refine oV (fD (aa.aT hxk) (aa.aT aa.mM) rfl (show au _ _=some (.string (strOfNums aa.aW)) by unfold aa.aW;rfl) (decide_eq_false hkn).symm)<|(zw) ?_
        (rw[if_neg (show¬(aP.g es (i:Int)).ch.k=aa.aW from hkn)] at hids;rw[←hids];exact j3 (i+1) _ _ ⟨omg,omg⟩ (fF (bb ln)) (sub (an (iV .nil)) aj))
    ·
      refine(Qf) ?_
      obtain rfl:i=es.length:=omg
      rw[show(es.map Ce.ch).take es.length=(es.map Ce.ch) from List.take_of_length_le (by rw[List.length_map];exact Nat.le_refl _)]
      refine fe (fun w hi=>eb hi (show Row U5 pd (aa.bS (es.map Ce.ch)).length cd (aa.bS (es.map Ce.ch))∈_ by exact ay)) (fun hcD=>?_)
      refine(Q5)<|(Qt)<|(H7)<|(Qt) ?_
      refine aQ (OP h.w h.h hsz) V.b47 rfl .nil rfl ?_
      rintro _ _ ⟨pw,cw,rfl,rfl⟩
      refine(Qc) ?_
      refine yi (fun(pa:Option Addr) (ca:Nat)=>[(2,.pointer (soz b2)),(6,.pointer (soz b6)),(7,.slice q7 pl.length c7),(9,.slice q9 tr.length c9),(11,.slice pd (aa.bS (es.map Ce.ch)).length cd),(13,.slice pa (aa.aD h).length ca)]) (fun(pa:Option Addr) (ca:Nat)=>Row gY pa (aa.aD h).length ca (aa.aD h)::Row U5 pd (aa.bS (es.map Ce.ch)).length cd (aa.bS (es.map Ce.ch))::ai b6 38 [I6 h.w,I6 h.h,I6 h.dep,I6 h.ak,.bool h.aV]::ai b2 26 [I6 0,I6 0,.slice none 0 0]::DK es::R::F) (fun(pa:Option Addr) (ca:Nat)=>True) ?_ ?_
      ·
        rcases(aa.tf h.aV) with hl1|hl2
        ·
          refine(nT) ?_
          refine oV (cn (v:=.bool true) (aB V.s4 rfl ic rfl) (congrArg Value.bool hl1))<|(Q6) ?_
          refine oV (aB V.s3 rfl ic rfl)<|(H7) ?_
          refine oV (aB V.s3 rfl ic rfl)<|aQ (Ku h.w h.h hsz) V.b29 rfl .nil rfl ?_
          rintro _ _ ⟨pw2,cw2,rfl,rfl⟩
          refine(Q9) ?_
          (rw[show(aa.fq h.w h.h)=(aa.aD h) from aa.w8 hl1];exact j2 _ _ trivial (iw (bb ln)) (sub (an (.cons ar (.cons cB (.cons cB (.cons aL (.cons aL .nil)))))) dC))
        ·
          refine(nT) ?_
          refine oV (cn (v:=.bool false) (aB V.s4 rfl ic rfl) (congrArg Value.bool hl2))<|(Q7) ?_
          (rw[show(aa.whole h.w h.h)=(aa.aD h) from aa.xn hl2];exact j2 _ _ trivial (iw (bb ln)) (sub (aJ (.cons aL (.cons aL (.cons ar (.cons ar .nil))))) bg))
      ·
        intro pa ca
        rintro-
        refine rC TT 1 rfl ?_
        refine wN [pz 0 [] [6],pz 1 [0] [],pz 3 [1] [],pz 0 [] [6],pz 8 [3] [],pz 31 [2,4] [],pz 63 [5] []] [⟨fun y=>Row gY pa (aa.aD h).length ca (aa.aD h),none,none,[]⟩,⟨fun y=>Row U5 pd (aa.bS (es.map Ce.ch)).length cd (aa.bS (es.map Ce.ch)),none,none,[]⟩,⟨fun y=>ai b6 38 [I6 h.w,I6 h.h,I6 h.dep,I6 h.ak,.bool h.aV],none,none,[1,4]⟩,⟨fun y=>ai b2 26 [I6 0,I6 0,.slice none 0 0],none,none,[]⟩,⟨fun y=>DK es,none,none,[]⟩,⟨fun y=>R,none,none,[]⟩] F V.mixed ?_
        refine nG V.X5 ?_
        refine nR (fun y FF hA=>aB V.s3 rfl ay rfl) ?_
        refine nE (fun y FF hA=>aO (Post:=[]) (tO h.ak) V.nU rfl .nil (fun v G h=>by rcases h with⟨rfl,rfl⟩;exact⟨rfl,.refl _⟩)) ?_
        refine nG V.F1 ?_
        refine nR (fun y FF hA=>aB V.s3 rfl ay rfl) ?_
        refine nV (fun y hA L=>fR (r:=(aa.parts h.ak*h.dep)) rfl rfl wI) ?_
        refine nA ?_
        refine cZ ?_
        intro y hA
        clear hA
        refine bJ<|bW [(2,.pointer (soz b2)),(6,.pointer (soz b6)),(7,.slice q7 pl.length c7),(9,.slice q9 tr.length c9),(11,.slice pd (aa.bS (es.map Ce.ch)).length cd),(13,.slice pa (aa.aD h).length ca),(14,I6 (aa.parts h.ak*h.dep))] (.cons (d:=2) rfl (.cons (d:=6) rfl (.cons (d:=7) rfl (.cons (d:=9) rfl (.cons (d:=11) rfl (.cons (d:=13) rfl (.cons (d:=14) rfl (.nil _))))))))<|bA (M:=Row gY pa (aa.aD h).length ca (aa.aD h)::Row U5 pd (aa.bS (es.map Ce.ch)).length cd (aa.bS (es.map Ce.ch))::ai b6 38 [I6 h.w,I6 h.h,I6 h.dep,I6 h.ak,.bool h.aV]::ai b2 26 [I6 0,I6 0,.slice none 0 0]::DK es::R::F) (fun _ _ h=>h)<|(Q4) ?_
        refine oC (Pm pa ca (aa.aD h) (aa.parts h.ak*h.dep) (Row gY pa (aa.aD h).length ca (aa.aD h)) (fun _ _ hh=>hh.rd) hps.2 (fun p hp=>(hps.1 p hp).2.1) ⟨omg,omg⟩) V.b48 rfl (an .nil) rfl ?_
        rw[aa.DS h]
        refine(Qd) ?_
        refine aQ (TZ pd cd (aa.bS (es.map Ce.ch)) (Row U5 pd (aa.bS (es.map Ce.ch)).length cd (aa.bS (es.map Ce.ch))) (fun _ _ hh=>hh.rd) hcD hlD hBD (aa.want h) hwi.2 z (by rw[hhd];exact hz)) V.b49 rfl (.cons ar .nil) rfl ?_
        rintro _ _ ⟨qz,cqz,rfl,rfl⟩
        refine(Qd) ?_
        rcases(aa.Wm ⟨h,pl,tr⟩ z) with⟨g1,hw_⟩|⟨g1,g2,hw_⟩|⟨g1,g2⟩
        ·
          refine(Q5) ?_
          have hzbl:=aa.wk hBD hwi.2 (by rw[hhd];exact hz)
          have hzB:=hzbl.1
          have hzl:=hzbl.2
          refine fe (fun w hi=>eb hi (show Row U5 qz z.1.length cqz z.1∈_ by exact ay)) (fun hcz0=>?_)
          refine(Q5) ?_
          refine oV (bQ (bO rfl rfl) g1)<|(Q6)<|(ng)<|(Q8)<|(yT)<|(Q6) ?_
          rw[hw_] at hr;subst hr
          exact af (cH V.ff rfl ic rfl rfl) ⟨none,0,0,rfl,rfl,Nat.le_refl _,rfl⟩ ((bH (A:=Row (aK 62 .u16) none 0 0 []) (fun w0=>Row.nil _ _ _)).trans (sub (an (.cons nQ .nil)) GK))
        ·
          refine(Q5) ?_
          have hzbl:=aa.wk hBD hwi.2 (by rw[hhd];exact hz)
          have hzB:=hzbl.1
          have hzl:=hzbl.2
          refine fe (fun w hi=>eb hi (show Row U5 qz z.1.length cqz z.1∈_ by exact ay)) (fun hcz0=>?_)
          refine(Q5) ?_
          refine oV (bC (bO rfl rfl) g1)<|(Qj) ?_
          refine oV (bQ (dD rfl rfl) g2)<|(Q6)<|(ng)<|(yT)<|(Q6) ?_
          rw[hw_] at hr;subst hr
          exact af (cH V.ff rfl ic rfl rfl) ⟨none,0,0,rfl,rfl,Nat.le_refl _,rfl⟩ ((bH (A:=Row (aK 62 .u16) none 0 0 []) (fun w0=>Row.nil _ _ _)).trans (sub (an (.cons nQ .nil)) GK))
        ·
          refine(Q5) ?_
          have hzbl:=aa.wk hBD hwi.2 (by rw[hhd];exact hz)
          have hzB:=hzbl.1
          have hzl:=hzbl.2
          refine fe (fun w hi=>eb hi (show Row U5 qz z.1.length cqz z.1∈_ by exact ay)) (fun hcz0=>?_)
          refine(Q5) ?_
          refine oV (bC (bO rfl rfl) g1)<|(Qj) ?_
          refine oV (bC (dD rfl rfl) g2)<|(Qe)<|(Qt)<|(H7)<|(Qt) ?_
          refine aQ (EI h.w h.h hsz) V.Zd rfl .nil rfl ?_
          rintro _ _ ⟨bq,rfl,rfl⟩
          refine(Qc)<|(ti) ?_
          intro nW
          refine(Dz)<|(QC) ?_
          rw[show List.replicate ((4*h.w*h.h).toNat) 0=aa.kI h from by unfold aa.kI;rfl]
          obtain⟨RES,hRES⟩:∃r,r=aa.fy ⟨h,pl,tr⟩ z.1 (aa.aD h) 0 (aa.kI h):=⟨_,rfl⟩
          have g2w:¬(z.1.length:Int)<aa.want h:=g2
          refine dP (fun(i:Nat) (a:Nat) (P:List Int)=>[(2,.pointer (soz b2)),(6,.pointer (soz b6)),(7,.slice q7 pl.length c7),(9,.slice q9 tr.length c9),(13,.slice pa (aa.aD h).length ca),(14,I6 (aa.parts h.ak*h.dep)),(16,.slice qz z.1.length cqz),(17,.pointer (soz nW)),(19,I6 (a:Int)),(20,I6 (i:Int))]) (fun(i:Nat) (a:Nat) (P:List Int)=>ai nW 26 [I6 h.w,I6 h.h,.slice (soz bq) ((4*h.w*h.h).toNat) ((4*h.w*h.h).toNat)]::Row (aK 62 .u16) (soz bq) ((4*h.w*h.h).toNat) ((4*h.w*h.h).toNat) P::Row gY pa (aa.aD h).length ca (aa.aD h)::Row U5 qz z.1.length cqz z.1::ai b6 38 [I6 h.w,I6 h.h,I6 h.dep,I6 h.ak,.bool h.aV]::ai b2 26 [I6 0,I6 0,.slice none 0 0]::DK es::R::F) (fun(i:Nat) (a:Nat) (P:List Int)=>i≤(aa.aD h).length∧P.length=((4*h.w*h.h).toNat)∧a+aa.mT (aa.bitsOf h) ((aa.aD h).drop i)≤z.1.length∧aa.fy ⟨h,pl,tr⟩ z.1 ((aa.aD h).drop i) a P=RES) (fun(i:Nat) (a:Nat) (P:List Int)=>(aa.aD h).length-i) (i3 (0) (0) (aa.kI h) ?_ (bb (bb ln)) (sub (aJ (.cons aL (.cons dJ (.cons ar (.cons ar (.cons ar (.cons ar .nil))))))) bg)) ?_
          ·
            exact⟨Nat.zero_le _,List.length_replicate,by rw[List.drop_zero];omega,hRES.symm⟩
          intro i a P
          rintro⟨hi,hPl,hat,hres⟩
          refine(pe) ?_
          refine av rfl (fun h139=>?_) (fun h139=>?_)
          ·
            refine(Qb) ?_
            obtain⟨x,hx⟩:∃x,x=(gY.g (aa.aD h) (i:Int)):=⟨_,rfl⟩
            have hx2:x=(aa.aD h).getD i ⟨0,0,0,0,0,0⟩:=hx
            have hxi:=hps.1 x (hx2▸aa.AU omg)
            have hne:=aa.IX (bits:=aa.bitsOf h) omg hx2
            obtain⟨nr,hnr0⟩:∃n,n=aa.lf h x:=⟨_,rfl⟩
            have hnr:(nr:Int)=aa.eC x.w (aa.parts h.ak*h.dep):=hnr0▸aa.xw hxi.2.1 hde
            obtain⟨back,hback0⟩:∃n,n=aa.nI h:=⟨_,rfl⟩
            have hback:(back:Int)=max 1 ((aa.parts h.ak*h.dep)/8):=hback0▸aa.xS h
            have hbk:1≤back∧back≤8:=omg
            have hneed:aa.mT (aa.bitsOf h) ((aa.aD h).drop i)=x.h.toNat*(1+nr)+aa.mT (aa.bitsOf h) ((aa.aD h).drop (i+1)):=by rw[hne,hnr0];unfold aa.lf;rfl
            have hpo:=hxi.1
            unfold aa.j6 aa.jt at hpo
            obtain⟨⟨hx0,hx1,hy0,hy1,hdx,hdy,hw0,hw1,hh0,hh1⟩,hix,hiy⟩:=hpo
            refine(Q3) ?_
            refine oV (xI V.qU (own dz))<|oV (cn (v:=.agg #[I6 x.x,I6 x.y,I6 x.dx,I6 x.dy,I6 x.w,I6 x.h]) (mU (c:=gY) V.Nb rfl (own dz) omg omg rfl) (by rw[hx]))<|de V.pn rfl ?_
            intro kM
            refine(Q87)<|(Q6)<|(Ql)<|(Q8) ?_
            refine oC (L9 x.w (aa.parts h.ak*h.dep) ⟨hw0,hw1⟩ ⟨omg,omg⟩) V.VG rfl .nil rfl ?_
            rw[←hnr]
            refine(QE)<|(wc) ?_
            obtain⟨RP,hRP⟩:∃r,r=aa.ez ⟨h,pl,tr⟩ z.1 (aa.lf h x) (aa.nI h) x x.h.toNat 0 a [] P:=⟨_,rfl⟩
            have hRP2:=hRP
            rw[←hnr0,←hback0] at hRP2
            refine gx (fun(yv:Nat) (s:zl)=>[(2,.pointer (soz b2)),(6,.pointer (soz b6)),(7,.slice q7 pl.length c7),(9,.slice q9 tr.length c9),(13,.slice pa (aa.aD h).length ca),(14,I6 (aa.parts h.ak*h.dep)),(16,.slice qz z.1.length cqz),(17,.pointer (soz nW)),(19,I6 (s.a:Int)),(20,I6 (i:Int)),(21,.pointer (soz kM)),(22,I6 (nr:Int)),(23,.slice s.pa s.na s.ca),(24,I6 (yv:Int))]) (fun(yv:Nat) (s:zl)=>Row U5 qz z.1.length cqz z.1::Row U5 s.pa s.na s.ca s.A::ai kM 67 [I6 x.x,I6 x.y,I6 x.dx,I6 x.dy,I6 x.w,I6 x.h]::ai nW 26 [I6 h.w,I6 h.h,.slice (soz bq) ((4*h.w*h.h).toNat) ((4*h.w*h.h).toNat)]::Row (aK 62 .u16) (soz bq) ((4*h.w*h.h).toNat) ((4*h.w*h.h).toNat) s.P::Row gY pa (aa.aD h).length ca (aa.aD h)::ai b6 38 [I6 h.w,I6 h.h,I6 h.dep,I6 h.ak,.bool h.aV]::ai b2 26 [I6 0,I6 0,.slice none 0 0]::DK es::R::F) (fun(yv:Nat) (s:zl)=>(yv:Int)≤x.h∧s.a=a+yv*(1+nr)∧s.P.length=((4*h.w*h.h).toNat)∧s.A.length=s.na∧(s.na=0∨s.na=nr)∧ag.aq s.A∧aa.ez ⟨h,pl,tr⟩ z.1 nr back x (x.h.toNat-yv) yv s.a s.A s.P=RP) (fun(yv:Nat) (s:zl)=>x.h.toNat-yv) (i2 (0) (⟨a,none,0,none,0,0,[],P⟩) ?_ (cK (bb (bb ln))) (sub (.cons jX (jm (iV .nil))) aj)) ?_
            ·
              exact⟨omg,by simp,hPl,rfl,.inl rfl,aa.jc,hRP2.symm⟩
            intro yv s
            rintro⟨hy,hsa,hsP,hAl,hAn,hAB,hsr⟩
            refine(lY)<|(QY)<|(Qc) ?_
            refine av rfl (fun h153=>?_) (fun h153=>?_)
            ·
              refine(Q4) ?_
              rcases(Classical.em (4<(z.1.getD s.a 0))) with hk4|hk4
              ·
                refine(Qa) ?_
                have hyh:(yv:Int)<x.h:=omg
                have hya:(yv+1)*(1+nr)≤x.h.toNat*(1+nr):=Nat.mul_le_mul_right _ omg
                rw[Nat.add_mul,Nat.one_mul] at hya
                have hKB:=hzB.get s.a
                have hL1l:((z.1.drop (s.a+1)).take nr).length=nr:=by rw[List.length_take,List.length_drop];omega
                have hUl:(aa.ee (z.1.getD s.a 0) ((z.1.drop (s.a+1)).take nr) s.A back).length=nr:=(aa.qI ..).trans hL1l
                have hS1:∀w0 h,(Row U5 qz z.1.length cqz z.1) w0 h→aE U5 (cM qz (s.a+1) cqz 1) nr ((z.1.drop (s.a+1)).take nr) w0 h:=fun w0 h hh=>jo (cap:=0) (eB (c:=U5) (fun w0 h (hh:(Row U5 qz z.1.length cqz z.1) w0 h)=>hh.rd) rfl (s.a+1) cqz omg hcz0) nr omg w0 h hh
                refine wN [pz 0 [] [16],pz 0 [] [19],pz 3 [0,1] [],pz 7 [2] [],pz 15 [3] [],pz 0 [] [16],pz 0 [] [19],pz 64 [6] [],pz 0 [] [19],pz 256 [8] [],pz 0 [] [22],pz 1792 [9,10] [],pz 4064 [5,7,11] [],pz 0 [] [23],pz 0 [] [14],pz 16384 [14] [],pz 49152 [15] [],pz 131071 [4,12,13,16] [],pz 262143 [17] [],pz 524287 [18] [],pz 524287 [18] [],pz 1048575 [19] [],pz 4194303 [20] []] [⟨fun y=>Row U5 qz z.1.length cqz z.1,none,none,[2,3,17]⟩,⟨fun y=>Row U5 s.pa s.na s.ca s.A,none,none,[17]⟩,⟨fun y=>ai kM 67 [I6 x.x,I6 x.y,I6 x.dx,I6 x.dy,I6 x.w,I6 x.h],none,none,[]⟩,⟨fun y=>ai nW 26 [I6 h.w,I6 h.h,.slice (soz bq) ((4*h.w*h.h).toNat) ((4*h.w*h.h).toNat)],none,none,[]⟩,⟨fun y=>Row (aK 62 .u16) (soz bq) ((4*h.w*h.h).toNat) ((4*h.w*h.h).toNat) s.P,none,none,[]⟩,⟨fun y=>Row gY pa (aa.aD h).length ca (aa.aD h),none,none,[]⟩,⟨fun y=>ai b6 38 [I6 h.w,I6 h.h,I6 h.dep,I6 h.ak,.bool h.aV],none,none,[]⟩,⟨fun y=>ai b2 26 [I6 0,I6 0,.slice none 0 0],none,none,[]⟩,⟨fun y=>DK es,none,none,[]⟩,⟨fun y=>R,none,none,[]⟩] F V.mixed ?_
                iterate 2 refine nM ?_
                refine nR (fun y FF hA=>xI V.bT (own ay)) ?_
                refine nR (fun y FF hA=>xL V.s5 (own ay)) ?_
                refine nV (fun y hA L=>cS V.u5 Tryz.underlying3 rfl (aa.o8 hKB)) ?_
                iterate 2 refine nM ?_
                refine(NY) ?_
                refine nM<|(NY) ?_
                refine nM<|(Q8z)<|(Y0) ?_
                iterate 2 refine nM ?_
                refine(yC)<|(ZT) ?_
                refine nE (fun y FF hA=>aO (Post:=[Row U5 qz z.1.length cqz z.1,Row U5 s.pa s.na s.ca s.A]) (OX (z.1.getD s.a 0) (cM qz (s.a+1) cqz 1) (cqz-(s.a+1)) nr ((z.1.drop (s.a+1)).take nr) (Row U5 qz z.1.length cqz z.1) hS1 hL1l (aa.dS (aa.cA hzB _) _) s.pa s.ca s.na s.A (Row U5 s.pa s.na s.ca s.A) (fun _ _ hh=>hh.rd) hAl hAB back hbk hAn hKB.1 omg hk4) V.b51 rfl (aJ .nil) (fun v G h=>by rcases h with⟨rfl,rfl⟩;exact⟨rfl,.refl _⟩))<|nM ?_
                iterate 2 refine nV (fun y hA L=>fz rfl rfl) ?_
                iterate 2 refine nA ?_
                refine(Qi) ?_
                intro y hA
                clear hA
                refine bJ<|bW [(2,.pointer (soz b2)),(6,.pointer (soz b6)),(7,.slice q7 pl.length c7),(9,.slice q9 tr.length c9),(13,.slice pa (aa.aD h).length ca),(14,I6 (aa.parts h.ak*h.dep)),(16,.slice qz z.1.length cqz),(17,.pointer (soz nW)),(19,I6 (s.a:Int)),(20,I6 (i:Int)),(21,.pointer (soz kM)),(22,I6 (nr:Int)),(24,I6 (yv:Int)),(25,.slice none 0 0),(26,.bool false)] (.cons (d:=2) rfl (.cons (d:=6) rfl (.cons (d:=7) rfl (.cons (d:=9) rfl (.cons (d:=13) rfl (.cons (d:=14) rfl (.cons (d:=16) rfl (.cons (d:=17) rfl (.cons (d:=19) rfl (.cons (d:=20) rfl (.cons (d:=21) rfl (.cons (d:=22) rfl (.cons (d:=24) rfl (.cons (d:=25) rfl (.cons (d:=26) rfl (.nil _))))))))))))))))<|bA (M:=Row U5 qz z.1.length cqz z.1::Row U5 s.pa s.na s.ca s.A::ai kM 67 [I6 x.x,I6 x.y,I6 x.dx,I6 x.dy,I6 x.w,I6 x.h]::ai nW 26 [I6 h.w,I6 h.h,.slice (soz bq) ((4*h.w*h.h).toNat) ((4*h.w*h.h).toNat)]::Row (aK 62 .u16) (soz bq) ((4*h.w*h.h).toNat) ((4*h.w*h.h).toNat) s.P::Row gY pa (aa.aD h).length ca (aa.aD h)::ai b6 38 [I6 h.w,I6 h.h,I6 h.dep,I6 h.ak,.bool h.aV]::ai b2 26 [I6 0,I6 0,.slice none 0 0]::DK es::R::F) (fun _ _ h=>h)<|bA (sub .nil (.keep (.skip (.keep (.keep (.keep (.keep (.keep (.keep (.keep (.keep .refl))))))))))) ?_
                simp only[List.nil_append]
                refine(QN)<|(ng)<|(Q8u)<|(QE) ?_
                skip
                rw[aa.zO (f:=⟨h,pl,tr⟩) g1 g2 (hRES.symm.trans (aa.Ba (f:=⟨h,pl,tr⟩) omg hx2 (hRP.symm.trans (aa.CN hyh hk4 hsr)) hres))] at hr;subst hr
                exact af (cH V.ff rfl HY rfl rfl) ⟨none,0,0,rfl,rfl,Nat.le_refl _,rfl⟩ ((bH (A:=Row (aK 62 .u16) none 0 0 []) (fun w0=>Row.nil _ _ _)).trans (sub (an (.cons Nd .nil)) Ng))
              ·
                refine(Qa) ?_
                have hyh:(yv:Int)<x.h:=omg
                have hya:(yv+1)*(1+nr)≤x.h.toNat*(1+nr):=Nat.mul_le_mul_right _ omg
                rw[Nat.add_mul,Nat.one_mul] at hya
                have hKB:=hzB.get s.a
                have hL1l:((z.1.drop (s.a+1)).take nr).length=nr:=by rw[List.length_take,List.length_drop];omega
                have hUl:(aa.ee (z.1.getD s.a 0) ((z.1.drop (s.a+1)).take nr) s.A back).length=nr:=(aa.qI ..).trans hL1l
                have hS1:∀w0 h,(Row U5 qz z.1.length cqz z.1) w0 h→aE U5 (cM qz (s.a+1) cqz 1) nr ((z.1.drop (s.a+1)).take nr) w0 h:=fun w0 h hh=>jo (cap:=0) (eB (c:=U5) (fun w0 h (hh:(Row U5 qz z.1.length cqz z.1) w0 h)=>hh.rd) rfl (s.a+1) cqz omg hcz0) nr omg w0 h hh
                refine jE [pz 0 [] [16],pz 0 [] [19],pz 3 [0,1] [],pz 7 [2] [],pz 15 [3] [],pz 0 [] [16],pz 0 [] [19],pz 64 [6] [],pz 0 [] [19],pz 256 [8] [],pz 0 [] [22],pz 1792 [9,10] [],pz 4064 [5,7,11] [],pz 0 [] [23],pz 0 [] [14],pz 16384 [14] [],pz 49152 [15] [],pz 131071 [4,12,13,16] [],pz 262143 [17] [],pz 524287 [18] [],pz 524287 [18] [],pz 1048575 [19] [],pz 4194303 [20] []] [⟨fun y=>Row U5 qz z.1.length cqz z.1,none,none,[2,3,17]⟩,⟨fun y=>Row U5 s.pa s.na s.ca s.A,none,none,[17]⟩,⟨fun y=>ai kM 67 [I6 x.x,I6 x.y,I6 x.dx,I6 x.dy,I6 x.w,I6 x.h],none,none,[]⟩,⟨fun y=>ai nW 26 [I6 h.w,I6 h.h,.slice (soz bq) ((4*h.w*h.h).toNat) ((4*h.w*h.h).toNat)],none,none,[]⟩,⟨fun y=>Row (aK 62 .u16) (soz bq) ((4*h.w*h.h).toNat) ((4*h.w*h.h).toNat) s.P,none,none,[]⟩,⟨fun y=>Row gY pa (aa.aD h).length ca (aa.aD h),none,none,[]⟩,⟨fun y=>ai b6 38 [I6 h.w,I6 h.h,I6 h.dep,I6 h.ak,.bool h.aV],none,none,[]⟩,⟨fun y=>ai b2 26 [I6 0,I6 0,.slice none 0 0],none,none,[]⟩,⟨fun y=>DK es,none,none,[]⟩,⟨fun y=>R,none,none,[]⟩,⟨fun y=>Row U5 (fV (y 17)).1 nr (fV (y 17)).2 (aa.ee (z.1.getD s.a 0) ((z.1.drop (s.a+1)).take nr) s.A back),some 17,none,[]⟩] F V.mixed (by kernel_rfl) rfl (fun _=>.refl _) (aU _ (aU _ (aU _ (aU _ (aU _ (aU _ (aU _ (aU _ (aU _ (aU _ (dq _ rfl (by intro y y2 h;simp only[h 17 (.inl rfl)]) fw))))))))))) ?_
                iterate 2 refine nM ?_
                refine nR (fun y FF hA=>xI V.bT (own ay)) ?_
                refine nR (fun y FF hA=>xL V.s5 (own ay)) ?_
                refine nV (fun y hA L=>cS V.u5 Tryz.underlying3 rfl (aa.o8 hKB)) ?_
                iterate 2 refine nM ?_
                refine(NY) ?_
                refine nM<|(NY) ?_
                refine nM<|(Q8z)<|(Y0) ?_
                iterate 2 refine nM ?_
                refine(yC) ?_
                refine(ZT) ?_
                refine fh (fun y v=>.tuple #[.slice (fV v).1 nr (fV v).2,.bool true]) (fun y v=>True) _ _ (fun y v=>[Row U5 (fV v).1 nr (fV v).2 (aa.ee (z.1.getD s.a 0) ((z.1.drop (s.a+1)).take nr) s.A back)]) _ (fun y=>rfl) (fun y=>rfl) (fun y=>rfl) (fun y=>rfl) (fun y FF hA=>ve (α:=Option Addr×Nat) (fun a=>.tuple #[.slice a.1 nr a.2,.bool true]) fV (fun a=>[Row U5 a.1 nr a.2 (aa.ee (z.1.getD s.a 0) ((z.1.drop (s.a+1)).take nr) s.A back),Row U5 qz z.1.length cqz z.1,Row U5 s.pa s.na s.ca s.A]) (RG (z.1.getD s.a 0) (cM qz (s.a+1) cqz 1) (cqz-(s.a+1)) nr ((z.1.drop (s.a+1)).take nr) (Row U5 qz z.1.length cqz z.1) hS1 hL1l (aa.dS (aa.cA hzB _) _) s.pa s.ca s.na s.A (Row U5 s.pa s.na s.ca s.A) (fun _ _ hh=>hh.rd) hAl hAB back hbk hAn hKB.1 omg hk4) (fun a=>rfl) V.b51 rfl (aJ .nil)) (by intros;rfl) (by intros;rfl) (by intros;rfl) (by intro y y2 h;simp only[h 17 (.inl rfl)]) (by intro y y2 h;rfl) ?_
                refine dv _ (fun y=>rfl) rfl rfl rfl (fun y hA L=>dm (jh rfl) ⟨rfl,rfl⟩) (by intros;rfl) (by intro y y2 h;simp only[h 17 (.inr dec)]) ?_
                refine dv _ (fun y=>rfl) rfl rfl rfl (fun y hA L=>dm (fz rfl rfl) ⟨rfl,rfl⟩) (by intros;rfl) (by intro y y2 h;simp only[h 17 (.inr dec)]) ?_
                refine(S5) ?_
                refine dv _ (fun y=>rfl) rfl rfl rfl (fun y hA L=>dm (jZ rfl) ⟨rfl,rfl⟩) (by intros;rfl) (by intro y y2 h;simp only[h 17 (.inr dec)]) ?_
                refine nA ?_
                refine(Qi) ?_
                intro y hA
                clear hA
                refine bJ<|bW [(2,.pointer (soz b2)),(6,.pointer (soz b6)),(7,.slice q7 pl.length c7),(9,.slice q9 tr.length c9),(13,.slice pa (aa.aD h).length ca),(14,I6 (aa.parts h.ak*h.dep)),(16,.slice qz z.1.length cqz),(17,.pointer (soz nW)),(19,I6 (s.a:Int)),(20,I6 (i:Int)),(21,.pointer (soz kM)),(22,I6 (nr:Int)),(24,I6 (yv:Int)),(25,.slice (fV (y 17)).1 nr (fV (y 17)).2),(26,.bool true)] (.cons (d:=2) rfl (.cons (d:=6) rfl (.cons (d:=7) rfl (.cons (d:=9) rfl (.cons (d:=13) rfl (.cons (d:=14) rfl (.cons (d:=16) rfl (.cons (d:=17) rfl (.cons (d:=19) rfl (.cons (d:=20) rfl (.cons (d:=21) rfl (.cons (d:=22) rfl (.cons (d:=24) rfl (.cons (d:=25) rfl (.cons (d:=26) rfl (.nil _))))))))))))))))<|bA (M:=Row U5 qz z.1.length cqz z.1::Row U5 s.pa s.na s.ca s.A::ai kM 67 [I6 x.x,I6 x.y,I6 x.dx,I6 x.dy,I6 x.w,I6 x.h]::ai nW 26 [I6 h.w,I6 h.h,.slice (soz bq) ((4*h.w*h.h).toNat) ((4*h.w*h.h).toNat)]::Row (aK 62 .u16) (soz bq) ((4*h.w*h.h).toNat) ((4*h.w*h.h).toNat) s.P::Row gY pa (aa.aD h).length ca (aa.aD h)::ai b6 38 [I6 h.w,I6 h.h,I6 h.dep,I6 h.ak,.bool h.aV]::ai b2 26 [I6 0,I6 0,.slice none 0 0]::DK es::R::Row U5 (fV (y 17)).1 nr (fV (y 17)).2 (aa.ee (z.1.getD s.a 0) ((z.1.drop (s.a+1)).take nr) s.A back)::F) (fun _ _ h=>h)<|bA (sub .nil (.keep (.skip (.keep (.keep (.keep (.keep (.keep (.keep (.keep (.keep (.keep .refl)))))))))))) ?_
                simp only[List.nil_append]
                generalize(fV (y 17)).1=q25
                generalize(fV (y 17)).2=c25
                refine(oZ) ?_
                refine oV (cn (v:=I6 ((s.a+1:Nat):Int)) (dw (r:=(s.a:Int)+1) rfl rfl wI) rfl)<|(Q8) ?_
                refine oV (cn (v:=I6 ((s.a+1+nr:Nat):Int)) (dw (r:=((s.a+1:Nat):Int)+(nr:Int)) rfl rfl wI) rfl)<|(Qj) ?_
                obtain⟨RR,hRR⟩:∃r,r=aa.fP ⟨h,pl,tr⟩ x (yv:Int) (aa.ee (z.1.getD s.a 0) ((z.1.drop (s.a+1)).take nr) s.A back) x.w.toNat 0 s.P:=⟨_,rfl⟩
                refine gx (fun(k:Nat) (P:List Int)=>[(2,.pointer (soz b2)),(6,.pointer (soz b6)),(7,.slice q7 pl.length c7),(9,.slice q9 tr.length c9),(13,.slice pa (aa.aD h).length ca),(14,I6 (aa.parts h.ak*h.dep)),(16,.slice qz z.1.length cqz),(17,.pointer (soz nW)),(19,I6 ((s.a+1+nr:Nat):Int)),(20,I6 (i:Int)),(21,.pointer (soz kM)),(22,I6 (nr:Int)),(23,.slice q25 nr c25),(24,I6 (yv:Int)),(25,.slice q25 nr c25),(27,I6 (k:Int))]) (fun(k:Nat) (P:List Int)=>Row U5 q25 nr c25 (aa.ee (z.1.getD s.a 0) ((z.1.drop (s.a+1)).take nr) s.A back)::ai kM 67 [I6 x.x,I6 x.y,I6 x.dx,I6 x.dy,I6 x.w,I6 x.h]::ai nW 26 [I6 h.w,I6 h.h,.slice (soz bq) ((4*h.w*h.h).toNat) ((4*h.w*h.h).toNat)]::Row (aK 62 .u16) (soz bq) ((4*h.w*h.h).toNat) ((4*h.w*h.h).toNat) P::Row gY pa (aa.aD h).length ca (aa.aD h)::Row U5 qz z.1.length cqz z.1::ai b6 38 [I6 h.w,I6 h.h,I6 h.dep,I6 h.ak,.bool h.aV]::ai b2 26 [I6 0,I6 0,.slice none 0 0]::DK es::R::F) (fun(k:Nat) (P:List Int)=>(k:Int)≤x.w∧P.length=((4*h.w*h.h).toNat)∧aa.fP ⟨h,pl,tr⟩ x (yv:Int) (aa.ee (z.1.getD s.a 0) ((z.1.drop (s.a+1)).take nr) s.A back) (x.w.toNat-k) k P=RR) (fun(k:Nat) (P:List Int)=>x.w.toNat-k) (i2 (0) (s.P) ?_ (iw (bb (bb (bb ln)))) (sub (.cons Y6 (.cons ar (.cons ar (.cons ar (.cons ar (iV .nil)))))) aj)) ?_
                ·
                  exact⟨omg,hsP,hRR.symm⟩
                intro k P
                rintro⟨hk,hPk,hrr⟩
                refine(lY)<|(QW)<|(Qc) ?_
                refine av rfl (fun h188=>?_) (fun h188=>?_)
                ·
                  refine(Q4) ?_
                  rcases(aa.yl ⟨h,pl,tr⟩ (aa.aM h (aa.ee (z.1.getD s.a 0) ((z.1.drop (s.a+1)).take nr) s.A back) k)) with hpx|⟨c0,c1,c2,c3,hpx⟩
                  ·
                    refine(Q95)<|(Q7) ?_
                    refine oC (T4 h q25 (aa.ee (z.1.getD s.a 0) ((z.1.drop (s.a+1)).take nr) s.A back) c25 k q7 pl c7 q9 tr c9 (Row U5 q25 nr c25 (aa.ee (z.1.getD s.a 0) ((z.1.drop (s.a+1)).take nr) s.A back)) (DK es) (fun _ _ hh=>by rw[hUl];exact hh.rd) hrP hrT hf (by rw[hUl];omega) (aa.oh ..) omg (by rw[hUl];exact aa.rq omg omg hnr k omg) nr hUl hpx) V.Zz rfl (an (.cons IG .nil)) rfl<|(Qc)<|(uJ) ?_
                    intro Uw
                    refine(Hi)<|(Qq)<|(ng) ?_
                    refine cC (aZ V.ff rfl rfl (us:=[_,_,_]) rfl rfl (by exact pp9) (by exact Nat.le_of_ble_eq_true rfl) rfl)<|(qK) ?_
                    rw[aa.zO (f:=⟨h,pl,tr⟩) g1 g2 (hRES.symm.trans (aa.Ba (f:=⟨h,pl,tr⟩) omg hx2 (hRP.symm.trans (aa.D7 hyh hk4 (hRR.symm.trans (aa.Ih (f:=⟨h,pl,tr⟩) omg hpx hrr)) hsr)) hres))] at hr;subst hr
                    exact af (cH V.ff rfl mm9 rfl rfl) ⟨none,0,0,rfl,rfl,Nat.le_refl _,rfl⟩ ((bH (A:=Row (aK 62 .u16) none 0 0 []) (fun w0=>Row.nil _ _ _)).trans (sub (an (.cons acD .nil)) VO))
                  ·
                    refine(Q95)<|(Q7) ?_
                    refine oC (Ub h q25 (aa.ee (z.1.getD s.a 0) ((z.1.drop (s.a+1)).take nr) s.A back) c25 k q7 pl c7 q9 tr c9 (Row U5 q25 nr c25 (aa.ee (z.1.getD s.a 0) ((z.1.drop (s.a+1)).take nr) s.A back)) (DK es) (fun _ _ hh=>by rw[hUl];exact hh.rd) hrP hrT hf (by rw[hUl];omega) (aa.oh ..) omg (by rw[hUl];exact aa.rq omg omg hnr k omg) nr hUl c0 c1 c2 c3 hpx) V.Zz rfl (an (.cons IG .nil)) rfl<|(Qc)<|(uJ) ?_
                    intro Uw
                    refine(Hi)<|(Qq) ?_
                    have hnn:0≤(k:Int)*x.dx:=Int.mul_nonneg omg omg
                    have hnm:0≤(yv:Int)*x.dy:=Int.mul_nonneg omg omg
                    have hxx:=hix k omg omg
                    have hyv:=hiy yv omg omg
                    have hpi:=aa.qc (w:=h.w) (h:=h.h) (x:=(x.x+((k:Int)*x.dx))) (y:=(x.y+((yv:Int)*x.dy))) ⟨omg,omg⟩ ⟨omg,omg⟩
                    have h44:4*h.w*h.h=4*(h.w*h.h):=Int.mul_assoc _ _ _
                    refine(QF) ?_
                    refine oV (bU V.ff rfl ic (vs:=[_,_,_]) rfl rfl)<|oV (bP V.Xo rfl)<|(Qt)<|(Q9)<|(Qt)<|(xl)<|(Qt)<|(Q9)<|(Qt)<|(o7) ?_
                    refine oV (bU V.jQ rfl ay (vs:=[_,_,_,_]) rfl rfl)<|oC (YO h.w h.h hsz (soz bq) ((4*h.w*h.h).toNat) ((4*h.w*h.h).toNat) omg (Nat.le_refl _) P (x.x+((k:Int)*x.dx)) (x.y+((yv:Int)*x.dy)) ⟨omg,omg⟩ ⟨omg,omg⟩ c0 c1 c2 c3) V.NQ rfl (.cons jX .nil) rfl<|(QP) ?_
                    exact j2 (k+1) (aa.ko h.w P (x.x+((k:Int)*x.dx)) (x.y+((yv:Int)*x.dy)) [c0,c1,c2,c3]) ⟨⟨omg,by rw[aa.uS rfl omg];exact hPk,aa.H6 (f:=⟨h,pl,tr⟩) omg hpx hrr⟩,omg⟩ (iw (bb (bb (bb ln)))) (sub (.cons aL (.cons cB (.cons cB (an (.cons aL (.cons aL (.cons aL (.cons aL (.cons ar (.cons ar .nil)))))))))) bg)
                ·
                  refine(wM) ?_
                  exact j2 (yv+1) ⟨s.a+1+nr,none,0,q25,nr,c25,(aa.ee (z.1.getD s.a 0) ((z.1.drop (s.a+1)).take nr) s.A back),P⟩ ⟨⟨omg,by show s.a+1+nr=_;rw[Nat.add_mul,Nat.one_mul];omega,hPk,hUl,.inr rfl,aa.oh ..,aa.DA hyh hk4 (hRR.symm.trans (aa.Gq omg hrr)) hsr⟩,omg⟩ (cK (bb (bb ln))) (sub (.cons jX (jm (iV .nil))) aj)
            ·
              refine(wM) ?_
              exact j3 (i+1) s.a s.P ⟨⟨omg,hsP,by rw[hneed] at hat;rw[hsa,show yv=x.h.toNat by omega];omega,aa.Jq (f:=⟨h,pl,tr⟩) omg hx2 (hRP.symm.trans (aa.Ez omg hsr)) hres⟩,omg⟩ (bb (bb ln)) (sub (.cons cB (.cons cB (.cons cB (an (.cons aL (.cons aL (.cons aL (.cons aL .nil)))))))) dC)
          ·
            refine(Qr)<|(wQ) ?_
            refine cC (aZ V.ff rfl rfl (us:=[_,_,_]) rfl rfl (by exact G7) (by exact Nat.le_of_ble_eq_true rfl) rfl)<|(Q7) ?_
            rw[aa.Fb (f:=⟨h,pl,tr⟩) g1 g2 (hRES.symm.trans (aa.IE omg hres))] at hr
            subst hr
            exact af (cH V.ff rfl wW rfl rfl) ⟨_,_,_,rfl,hPl,Nat.le_refl _,rfl⟩ (sub (.cons ar (.cons nQ .nil)) GK)
end Go.Proofs.YtmaiakpjgomnpaaGreat
namespace Go.Proofs.YtmaiakpjgomnpaaGreat
open Go.Sl
def V.b62:az Tryz.prog 62=true:=by kernel_rfl
end Go.Proofs.YtmaiakpjgomnpaaGreat

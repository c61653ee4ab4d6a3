/- Walks of functions that the law reaches, and what they lean on; no conditions. -/
import Derived.Test.YtmaiakpjgomnpaaGreatM7
set_option linter.defProp false
set_option maxHeartbeats 16000000
set_option maxRecDepth 100000
set_option linter.unusedVariables false
set_option linter.unusedSimpArgs false
set_option maxRecDepth 100000
namespace Go.Proofs.YtmaiakpjgomnpaaGreat
open Go.Sl 
attribute [local irreducible] ag.aq aa.gZ aa.gN aa.eg aa.gu aa.fL aa.iB
def NC{l m:List Int}{t:Bool}(hl:∀x∈l,0≤x∧x<256)(hm:∀x∈m,0≤x∧x<256)(ht:t=decide (l=m)):((strOfNums l).toList==(strOfNums m).toList)=t:=by
 by_cases h:l=m
 ·rw[ht,decide_eq_true h,h];exact beq_self_eq_true _
 ·rw[ht,decide_eq_false h];exact rU hl hm h
def fD{C:Ctx}{E:Env}{L:List ad}{ty:TypeId}{x y:Operand}{t t':TypeId}{l m:List Int}{r:Bool}(hl:∀x∈l,0≤x∧x<256)(hm:∀x∈m,0≤x∧x<256)(hx:au E x=some (.string (strOfNums l)))(hy:au E y=some (.string (strOfNums m)))(ht:r=decide (l=m)):cx C (.binOp .eql t x y t') ty E L (.bool r) L:=N0 hx hy (NC hl hm ht)
def AS(x:Int)(hx:0≤x∧x<256)(t:Bool)(ht:t=decide (aa.kv x)):aA Tryz.prog 142 [.int .u8 x] [] (aF fun v G=>v=.bool t∧G=[]):=by
 refine ao [(0,_)] Tryz.func142 rfl Tryz.ntmps142 rfl rfl ?_
 intro w0 F
 refine(QV) ?_
 rcases(aa.SG x) with⟨h1,h2⟩|⟨h1,h2⟩|⟨h1,h2,h3⟩|⟨h1,h2,h3⟩|⟨h1,h2⟩
 ·refine(Q3)<|(nf)<|(Qm)<|(yz)<|(Qq) ?_
  (obtain rfl:t=true:=ht.trans (decide_eq_true (by unfold aa.kv;omega));exact af (G:=[]) (aw rfl) ⟨rfl,rfl⟩ (sub .nil aj))
 ·refine(Q3)<|(nf)<|(Qm)<|(Mt)<|(Qk)<|(nf)<|(Qm)<|(Mt)<|(Q1) ?_
  (obtain rfl:t=false:=ht.trans (decide_eq_false (by unfold aa.kv;omega));exact af (G:=[]) (aw rfl) ⟨rfl,rfl⟩ (sub .nil aj))
 ·refine(Q3)<|(qa)<|(Q1)<|(Q0)<|(nf)<|(Qm)<|(yz)<|(Q1) ?_
  (obtain rfl:t=true:=ht.trans (decide_eq_true (by unfold aa.kv;omega));exact af (G:=[]) (aw rfl) ⟨rfl,rfl⟩ (sub .nil aj))
 ·refine(Q3)<|(qa)<|(Q1)<|(Q0)<|(nf)<|(Qm)<|(Mt)<|(Q1) ?_
  (obtain rfl:t=false:=ht.trans (decide_eq_false (by unfold aa.kv;omega));exact af (G:=[]) (aw rfl) ⟨rfl,rfl⟩ (sub .nil aj))
 ·refine(Q3)<|(qa)<|(Q1)<|(Q0)<|(qa)<|(Qn) ?_
  (obtain rfl:t=false:=ht.trans (decide_eq_false (by unfold aa.kv;omega));exact af (G:=[]) (aw rfl) ⟨rfl,rfl⟩ (sub .nil aj))

def og(kk:List Int)(hk:ag.aq kk)(hkl:kk.length<500000000)(t:Bool)(ht:t=decide (aa.dp kk)):aA Tryz.prog 107 [.string (strOfNums kk)] [] (aF fun v G=>v=.bool t∧G=[]):=by
 refine ao [(0,_)] Tryz.func107 rfl Tryz.ntmps107 rfl rfl ?_
 intro w0 F
 refine(mz)<|(MH)<|(Q7) ?_
 refine cF (fun(i:Nat)=>[(0,.string (strOfNums kk)),(5,I6 (kk.length:Int)),(6,I6 (i:Int))]) (fun(i:Nat)=>F) (fun(i:Nat)=>i≤kk.length∧∀j,j<i→aa.kv (kk.getD j 0)) (fun(i:Nat)=>kk.length-i) (i1 (0) ?_ (eo ln) (sub .nil aj)) ?_
 ·exact⟨Nat.zero_le _,fun j hj=>by omega⟩
 intro i
 rintro⟨hi,hall⟩
 refine(Qs) ?_
 refine av rfl (fun h7=>?_) (fun h7=>?_)
 ·refine(QN) ?_
  rcases(Classical.em (aa.kv (kk.getD i 0))) with hl1|hl1
  ·refine(Q4)<|(Uj) ?_
   refine oC (AS (kk.getD i 0) (hk.get i) true (decide_eq_true hl1).symm) V.SP rfl .nil rfl<|(zw) ?_
   refine j1 (i+1) ?_ (eo ln) (sub .nil aj)
   exact⟨⟨omg,fun j hj=>(Nat.lt_succ_iff_lt_or_eq.1 hj).elim (hall j) (fun e=>e▸hl1)⟩,omg⟩
  ·refine(Q4)<|(Uj) ?_
   refine oC (AS (kk.getD i 0) (hk.get i) false (decide_eq_false hl1).symm) V.SP rfl .nil rfl<|(QC) ?_
   obtain rfl:t=false:=ht.trans (decide_eq_false (aa.xG hl1 omg))
   exact af (aw rfl) ⟨rfl,rfl⟩ (sub .nil aj)
 ·refine(pB)<|(MH)<|(Q6) ?_
  obtain rfl:i=kk.length:=omg
  rw[aa.YH ht hall]
  exact af (aw rfl) ⟨rfl,rfl⟩ (sub .nil aj)

def Cg(p:Option Addr)(c:Nat)(B:List Int)(R:ad)(hR:∀w0 h,R w0 h→aE U5 p B.length B w0 h)(hB:ag.aq B)(h4:4≤B.length)(hcap:B.length≤c):aA Tryz.prog 112 [.slice p B.length c] [R] (aF fun v G=>v=I6 (aC.bN B)∧G=[R]):=by
 refine ao [(0,_)] Tryz.func112 rfl Tryz.ntmps112 rfl rfl ?_
 intro w0 F
 have hT:∀w0 h,R w0 h→aE U5 p 4 (B.take 4) w0 h:=jo (cap:=0) hR 4 h4
 refine rT TT 14 rfl<|oV (iO 4 c V.bT rfl ⟨_,rfl⟩ rfl omg omg)<|(Q6) ?_
 refine cF (fun(i:Nat)=>[(3,I6 (aa.ac B i)),(7,.slice p 4 c),(8,I6 4),(9,I6 (i:Int))]) (fun(i:Nat)=>R::F) (fun(i:Nat)=>i≤4) (fun(i:Nat)=>4-i) (i1 (0) ?_ (cK ln) (sub (an .nil) aj)) ?_
 ·exact Nat.zero_le _
 intro i
 rintro hi
 refine(Qs) ?_
 refine av rfl (fun h10=>?_) (fun h10=>?_)
 ·refine(Qb) ?_
  have hv:=hB.get i
  have ha:=aa.Xz hB (i:=i) omg
  refine(QF) ?_
  refine oV (xI V.bT (by exact bK hT ay))<|oV (xL V.s5 (by exact bK hT ay)) ?_
  rw[show U5.g (B.take 4) (i:Int)=(B.getD i 0) from aa.H9 omg]
  refine(Q6) ?_
  refine oV (fk (r:=(aa.ac B i)*256) rfl rfl dec (aC.vl (n:=8) rfl dec rfl omg omg))<|(Q8)<|(mi) ?_
  refine oV (kq (r:=(aa.ac B i)*256+(B.getD i 0)) rfl rfl (aC.pQ (u:=(aa.ac B i)) (n:=8) rfl ha.1 omg omg))<|(QP) ?_
  refine j1 (i+1) ?_ (cK ln) (sub (an .nil) aj)
  exact⟨omg,omg⟩
 ·refine(Qf) ?_
  obtain rfl:i=4:=omg
  rw[aa.acd]
  refine(Qf) ?_
  exact af (aw rfl) ⟨rfl,rfl⟩ (sub (an .nil) aj)
def VI:aA Tryz.prog 76 [] [] (aF fun v G=>∃b,v=.slice (soz b) 8 8∧G=[Row U5 (soz b) 8 8 aa.fx]):=by
 refine ao [] Tryz.func76 rfl Tryz.ntmps76 rfl rfl ?_
 intro w0 F
 refine rT TT 7 rfl<|cg (U5) aa.fx V.bT V.z5 rfl rfl rfl rfl rfl rfl ?_
 intro b1
 refine(Q7) ?_
 exact af (aw rfl) ⟨b1,rfl,rfl⟩ (sub (an .nil) aj)

def OV(p:Option Addr)(c:Nat)(B:List Int)(R:ad)(hR:∀w0 h,R w0 h→aE U5 p B.length B w0 h)(hB:ag.aq B)(p2:Option Addr)(c2:Nat)(D:List Int)(R2:ad)(hR2:∀w0 h,R2 w0 h→aE U5 p2 D.length D w0 h)(hD:ag.aq D)(t:Bool)(ht:t=decide (B=D)):aA Tryz.prog 110 [.slice p B.length c,.slice p2 D.length c2] [R,R2] (aF fun v G=>v=.bool t∧G=[R,R2]):=by
 refine ao [(0,_),(1,_)] Tryz.func110 rfl Tryz.ntmps110 rfl rfl ?_
 intro w0 F
 refine(QQ) ?_
 refine oV (px (T:=5) Tryz.underlying22 Tryz.underlying5 Tryz.underlying9 rfl (by exact bK hR ay))<|(Q8) ?_
 refine oV (px (T:=5) Tryz.underlying22 Tryz.underlying5 Tryz.underlying9 rfl (by exact bK hR2 cX))<|oV (N0 rfl rfl (NC (aa.aT hB) (aa.aT hD) ht))<|(Q7) ?_
 exact af (aw rfl) ⟨rfl,rfl⟩ (sub (aJ .nil) aj)
end Go.Proofs.YtmaiakpjgomnpaaGreat
namespace Go.Proofs.YtmaiakpjgomnpaaGreat
open Go.Sl
def V.qg:gR Tryz.prog 88=some 2:=by kernel_rfl
def V.u4:az Tryz.prog 107=true:=by kernel_rfl
def V.acT:az Tryz.prog 109=true:=by kernel_rfl
def V.acI:az Tryz.prog 110=true:=by kernel_rfl
def V.KO:az Tryz.prog 112=true:=by kernel_rfl
def V.JR:eQ Tryz.prog 88=some [(0,1),(1,1)]:=by kernel_rfl
def V.Eg:cW Tryz.prog 88=some ([.string .empty,.slice none 0 0]):=by kernel_rfl
end Go.Proofs.YtmaiakpjgomnpaaGreat
namespace Go.Proofs.YtmaiakpjgomnpaaGreat
open Go.Sl 
attribute [local irreducible] ag.aq aa.gZ aa.gN aa.eg aa.gu aa.fL aa.iB aa.gQ aa.first
section
variable {C:Ctx} {E:Env} {L:List ad} {ty:TypeId}
def rh{t u u2 T n b T':Nat}{cs:List Value}{v2 v3:Value}(hs:gR C.P T=some n)(h1:E.get t=some (.pointer (soz b)))(hm:ai b T' cs∈L)(hn:cs.length=n)(h2:E.get u=some v2)(h3:E.get u2=some v3):k8 C #[.cell t T,.tmp u,.tmp u2] E L (.tuple #[.agg cs.toArray,v2,v3]):=fun fn a w hr ha hi=>by
 obtain⟨g1,g2⟩:=mS hs w
 obtain⟨F,hF⟩:=hi.mem hm
 have:=run_loadCells_list (P:=C.P) w ⟨b,0,none⟩ cs (fun j v hj=>by rw[Addr.gl,hF.jq,←hj];simp)
 rw[hn] at this
 simp[results,hr,ha.get _ _ h1,ha.get _ _ h2,ha.get _ _ h3,asAddr,loadVar,g1,g2,this]
end
def Jz(p:Option Addr)(c n:Nat)(L:List Int)(R:ad)(hR:∀w0 h,R w0 h→aE U5 p n L w0 h)(hn:L.length=n)(hB:ag.aq L)(h4:4≤n)(hcap:n≤c):aA Tryz.prog 112 [.slice p n c] [R] (aF fun v G=>v=I6 (aC.bN L)∧G=[R]):=by
 subst hn;exact Cg p c L R hR hB h4 hcap
def LO(p:Option Addr)(c n:Nat)(L:List Int)(R:ad)(hR:∀w0 h,R w0 h→aE U5 p n L w0 h)(hn:L.length=n)(hB:ag.aq L)(p2:Option Addr)(c2 n2:Nat)(D:List Int)(R2:ad)(hR2:∀w0 h,R2 w0 h→aE U5 p2 n2 D w0 h)(hn2:D.length=n2)(hD:ag.aq D)(t:Bool)(ht:t=decide (L=D)):aA Tryz.prog 110 [.slice p n c,.slice p2 n2 c2] [R,R2] (aF fun v G=>v=.bool t∧G=[R,R2]):=by
 subst hn;subst hn2;exact OV p c L R hR hB p2 c2 D R2 hR2 hD t ht
def Kz(bt:Nat)(kk:List Int)(hk:ag.aq kk)(hkl:kk.length<500000000)(p:Option Addr)(c n:Nat)(L:List Int)(R:ad)(hR:∀w0 h,R w0 h→aE U5 p n L w0 h)(hn:L.length=n)(hl:n<500000000)(hB:ag.aq L):aA Tryz.prog 109 [.pointer (soz bt),.string (strOfNums kk),.slice p n c] [ai bt 175 (CA [] .u32 aa.fL []),R] (aF fun v G=>v=.int .u32 (aa.gQ kk L)∧G=[ai bt 175 (CA [] .u32 aa.fL []),R]):=by
 subst hn;exact RS bt kk hk hkl p c L R hR hl hB
def Lo(kk:List Int)(hk:ag.aq kk)(hkl:kk.length<500000000)(p:Option Addr)(c n:Nat)(L:List Int)(R:ad)(hR:∀w0 h,R w0 h→aE U5 p n L w0 h)(hn:L.length=n)(hl:n<500000000)(hB:ag.aq L):aA Tryz.prog 66 [.string (strOfNums kk),.slice p n c] [R] (aF fun v G=>v=.int .u32 (aa.gQ kk L)∧G=[R]):=by
 subst hn;exact DQ kk hk hkl p c L R hR hl hB
def Lj(p:Option Addr)(c n:Nat)(L:List Int)(R:ad)(hR:∀w0 h,R w0 h→aE U5 p n L w0 h)(hn:L.length=n)(hl:n<500000000):aA Tryz.prog 91 [.slice p n c] [R] (aF fun v G=>∃q cq,v=.slice q n cq∧G=[Row U5 q n cq L,R]):=by
 subst hn;exact pX p c L R hR hl

def JI(p:Option Addr)(c:Nat)(B:List Int)(R:ad)(hR:∀w0 h,R w0 h→aE U5 p B.length B w0 h)(hB:ag.aq B)(hcap:B.length≤c)(p2:Option Addr)(c2:Nat)(D:List Int)(R2:ad)(hR2:∀w0 h,R2 w0 h→aE U5 p2 D.length D w0 h)(hD:ag.aq D)(hlen:D.length≤B.length)(t:Bool)(ht:t=decide (B.take D.length=D)):aA Tryz.prog 77 [.slice p B.length c,.slice p2 D.length c2] [R,R2] (aF fun v G=>v=.bool t∧G=[R,R2]):=by
 refine ao [(0,_),(1,_)] Tryz.func77 rfl Tryz.ntmps77 rfl rfl ?_
 intro w0 F
 refine rT TT 11 rfl<|(nf)<|(Qu) ?_
 refine oV (iO D.length _ V.bT rfl ⟨_,rfl⟩ rfl omg omg)<|(Q0)<|(ux) ?_
 refine oC (LO p c D.length (B.take D.length) R (jo (cap:=0) hR D.length hlen) (by rw[List.length_take];omega) (aa.dS hB _) p2 c2 D.length D R2 hR2 rfl hD t ht) V.acI rfl (aJ .nil) rfl<|(Q6) ?_
 exact af (aw rfl) ⟨rfl,rfl⟩ (sub (aJ .nil) aj)

def Ex(bt:Nat)(p:Option Addr)(c:Nat)(B:List Int)(R:ad)(hR:∀w0 h,R w0 h→aE U5 p B.length B w0 h)(hl:B.length<500000000)(hB:ag.aq B)(hcap:B.length≤c):aA Tryz.prog 79 [.slice p B.length c,.pointer (soz bt)] [ai bt 175 (CA [] .u32 aa.fL []),R] (aF fun v G=>(∃e,aa.first B=.error e∧v=.tuple #[.agg #[.string ByteArray.empty,.slice none 0 0],I6 0,I6 e]∧G=[ai bt 175 (CA [] .u32 aa.fL []),R])∨(∃x q cq,aa.first B=.ok x∧v=.tuple #[.agg #[.string (strOfNums x.k),.slice q x.d.length cq],I6 ((12+x.d.length:Nat):Int),I6 0]∧G=[Row U5 q x.d.length cq x.d,ai bt 175 (CA [] .u32 aa.fL []),R])):=by
 refine ao [(0,_),(1,_)] Tryz.func79 rfl Tryz.ntmps79 rfl rfl ?_
 intro w0 F
 refine(QK)<|(Bv) ?_
 intro b4
 refine(Q7) ?_
 rcases(aa.xb hB) with⟨h12,hf⟩|⟨n,h12,hn,hnb,hbig,hf⟩|⟨n,h12,hn,hnb,hnm,hf⟩|⟨n,h12,hn,hnb,hnm,hlt,hf⟩|⟨n,h12,hn,hnb,hnm,hge,hsum,hf⟩|⟨n,h12,hn,hnb,hnm,hge,hsum,hf⟩
 ·refine(Qb)<|(QG)<|(Q6)<|(MQ)<|(vZ)<|(Q1) ?_
  exact af (rh V.qg rfl ay rfl rfl rfl) (.inl ⟨2,hf,rfl,rfl⟩) (sub (.cons ar (.cons ar .nil)) bg)
 ·refine(Qb) ?_
  refine(QL) ?_
  refine(Q1) ?_
  have hS:∀w0 h,R w0 h→aE U5 (cM p 4 c 1) (8-4) ((B.drop 4).take 4) w0 h:=fun w0 h hh=>(hR w0 h hh).sub 4 8 c dec omg omg
  refine(Ii) ?_
  refine nM ?_
  refine(Hf) ?_
  refine nM ?_
  refine(IV) ?_
  refine(HR) ?_
  iterate 2 refine nA ?_
  refine(Qi) ?_
  intro y hA
  clear hA
  refine bJ<|(Gf)<|(Jx)<|(Q3) ?_
  rw[hn]
  refine(Q5)<|(Qp)<|(Qj)<|(MQ)<|(vZ)<|(Qd) ?_
  exact af (rh V.qg rfl ay rfl rfl rfl) (.inl ⟨4,hf,rfl,rfl⟩) (sub (.cons ar (.cons ar .nil)) bg)
 ·refine(Qb) ?_
  refine(QL) ?_
  refine(Q1) ?_
  have hS:∀w0 h,R w0 h→aE U5 (cM p 4 c 1) (8-4) ((B.drop 4).take 4) w0 h:=fun w0 h hh=>(hR w0 h hh).sub 4 8 c dec omg omg
  refine(Ii) ?_
  refine nM ?_
  refine(Hf) ?_
  refine nM ?_
  refine(IV) ?_
  refine(HR) ?_
  iterate 2 refine nA ?_
  refine(Qi) ?_
  intro y hA
  clear hA
  refine bJ<|(Gf)<|(Jx)<|(Q3) ?_
  rw[hn]
  refine rC TT 2 rfl ?_
  refine oV (bC (cR rfl rfl) omg) ?_
  refine rO TT 2 rfl ?_
  refine bB rfl ?_
  refine oC (og ((B.drop 4).take 4) (aa.dS (aa.cA hB 4) 4) (by rw[aa.gy omg];decide) false (decide_eq_false hnm).symm) V.u4 rfl .nil rfl ?_
  refine rO TT 8 rfl ?_
  refine oV (cE V.JR V.Eg rfl (cs:=[.string ByteArray.empty,.slice none 0 0]) rfl) ?_
  refine cC (aZ V.qg rfl rfl (us:=[_,_]) rfl rfl (by exact ft) (by exact Nat.le_of_ble_eq_true rfl) rfl) ?_
  refine rO TT 7 rfl ?_
  exact af (rh V.qg rfl ay rfl rfl rfl) (.inl ⟨4,hf,rfl,rfl⟩) (sub (.cons ar (.cons ar .nil)) bg)
 ·refine(Qb) ?_
  refine(QL) ?_
  refine(Q1) ?_
  have hS:∀w0 h,R w0 h→aE U5 (cM p 4 c 1) (8-4) ((B.drop 4).take 4) w0 h:=fun w0 h hh=>(hR w0 h hh).sub 4 8 c dec omg omg
  refine(Ii) ?_
  refine nM ?_
  refine(Hf) ?_
  refine nM ?_
  refine(IV) ?_
  refine(HR) ?_
  iterate 2 refine nA ?_
  refine(Qi) ?_
  intro y hA
  clear hA
  refine bJ<|(Gf)<|(Jx)<|(Q3) ?_
  rw[hn]
  refine(Q5) ?_
  refine(Qo) ?_
  refine(Q9) ?_
  refine(Q0) ?_
  refine(W9) ?_
  refine(Co) ?_
  refine(Qp) ?_
  refine(Q1) ?_
  refine(MQ) ?_
  refine(vZ) ?_
  refine(Qd) ?_
  exact af (rh V.qg rfl ay rfl rfl rfl) (.inl ⟨2,hf,rfl,rfl⟩) (sub (.cons ar (.cons ar .nil)) bg)
 ·refine(Qb) ?_
  refine(QL) ?_
  refine(Q1) ?_
  have hS:∀w0 h,R w0 h→aE U5 (cM p 4 c 1) (8-4) ((B.drop 4).take 4) w0 h:=fun w0 h hh=>(hR w0 h hh).sub 4 8 c dec omg omg
  refine(Ii) ?_
  refine nM ?_
  refine(Hf) ?_
  refine nM ?_
  refine(IV) ?_
  refine(HR) ?_
  iterate 2 refine nA ?_
  refine(Qi) ?_
  intro y hA
  clear hA
  refine bJ<|(Gf)<|(Jx)<|(Q3) ?_
  rw[hn]
  refine(Q5) ?_
  refine(Qo) ?_
  refine(Q9) ?_
  refine(Q0) ?_
  refine(W9) ?_
  refine(Co) ?_
  refine(Qo) ?_
  refine(Qe) ?_
  have hk4:=aa.dS (aa.cA hB 4) 4
  have uy:=aa.dS (aa.cA hB 8) n
  have hb8:=aa.cA hB (8+n)
  have hn4:=aa.qf hb8
  have hX8:∀w0 h,R w0 h→aE U5 (cM p 8 c 1) (8+n-8) ((B.drop 8).take n) w0 h:=fun w0 h hh=>by have h1:=(hR w0 h hh).sub 8 (8+n) c omg omg omg;rwa [Nat.add_sub_cancel_left] at h1 ⊢
  have hXn:∀w0 h,R w0 h→aE U5 (cM p (8+n) c 1) (B.length-(8+n)) (B.drop (8+n)) w0 h:=fun w0 h hh=>eB (c:=U5) hR rfl (8+n) c omg hcap w0 h hh
  refine(Q3) ?_
  refine(Mz) ?_
  refine(Q7G) ?_
  refine(Qe) ?_
  refine(Mz) ?_
  refine(ZD) ?_
  refine(Uy) ?_
  refine oV (cS V.u3 Tryz.underlying76 rfl (aC.wrap32 hn4.1 hn4.2)) ?_
  refine(Qc) ?_
  refine(Q7I) ?_
  refine(Sr) ?_
  refine(Qn) ?_
  refine aQ (Lj (cM p 8 c 1) (c-8) (8+n-8) ((B.drop 8).take n) R hX8 (by rw[aa.gy omg];omega) omg) V.EH rfl (.cons ar .nil) rfl ?_
  rintro _ _ ⟨q53,c53,rfl,rfl⟩
  refine oV (cE V.JR V.Eg rfl (cs:=[.string (strOfNums ((B.drop 4).take 4)),.slice q53 (8+n-8) c53]) rfl)<|(Q8) ?_
  refine oV (cn (v:=I6 ((12+n:Nat):Int)) (dw rfl rfl wI) (by congr 1))<|cC (aZ V.qg rfl rfl (us:=[_,_]) rfl rfl (by exact Md) (by exact Nat.le_of_ble_eq_true rfl) rfl)<|(Q6) ?_
  have hdl:=aa.gy (l:=B) (i:=8) (n:=n) omg
  have e8:8+n-8=((B.drop 8).take n).length:=by rw[hdl];omega
  rw[e8,show(12+n:Nat)=12+((B.drop 8).take n).length from by rw[hdl]]
  exact af (rh V.qg rfl fX rfl rfl rfl) (.inr ⟨_,_,_,hf,rfl,rfl⟩) (sub (an (.cons ar (.cons dJ .nil))) bg)
 ·refine(Qb) ?_
  refine(QL) ?_
  refine(Q1) ?_
  have hS:∀w0 h,R w0 h→aE U5 (cM p 4 c 1) (8-4) ((B.drop 4).take 4) w0 h:=fun w0 h hh=>(hR w0 h hh).sub 4 8 c dec omg omg
  refine(Ii) ?_
  refine nM ?_
  refine(Hf) ?_
  refine nM ?_
  refine(IV) ?_
  refine(HR) ?_
  iterate 2 refine nA ?_
  refine(Qi) ?_
  intro y hA
  clear hA
  refine bJ<|(Gf)<|(Jx)<|(Q3) ?_
  rw[hn]
  refine(Q5) ?_
  refine(Qo) ?_
  refine(Q9) ?_
  refine(Q0) ?_
  refine(W9) ?_
  refine(Co) ?_
  refine(Qo) ?_
  refine(Qe) ?_
  have hk4:=aa.dS (aa.cA hB 4) 4
  have uy:=aa.dS (aa.cA hB 8) n
  have hb8:=aa.cA hB (8+n)
  have hn4:=aa.qf hb8
  have hX8:∀w0 h,R w0 h→aE U5 (cM p 8 c 1) (8+n-8) ((B.drop 8).take n) w0 h:=fun w0 h hh=>by have h1:=(hR w0 h hh).sub 8 (8+n) c omg omg omg;rwa [Nat.add_sub_cancel_left] at h1 ⊢
  have hXn:∀w0 h,R w0 h→aE U5 (cM p (8+n) c 1) (B.length-(8+n)) (B.drop (8+n)) w0 h:=fun w0 h hh=>eB (c:=U5) hR rfl (8+n) c omg hcap w0 h hh
  refine(Q3) ?_
  refine(Mz) ?_
  refine(Q7G) ?_
  refine(Qe) ?_
  refine(Mz) ?_
  refine(ZD) ?_
  refine(Uy) ?_
  refine oV (cS V.u3 Tryz.underlying76 rfl (aC.wrap32 hn4.1 hn4.2)) ?_
  refine(Qc) ?_
  refine(Q7I) ?_
  refine oV (bQ (bO rfl rfl) hsum) ?_
  refine(Q6) ?_
  refine(MQ) ?_
  refine cC (aZ V.qg rfl rfl (us:=[_,_]) rfl rfl (by exact xr) (by exact Nat.le_of_ble_eq_true rfl) rfl) ?_
  refine(Q1) ?_
  exact af (rh V.qg rfl dz rfl rfl rfl) (.inl ⟨5,hf,rfl,rfl⟩) (sub (aJ .nil) bg)
end Go.Proofs.YtmaiakpjgomnpaaGreat
namespace Go.Proofs.YtmaiakpjgomnpaaGreat
open Go.Sl
def V.b76:az Tryz.prog 76=true:=by kernel_rfl
def V.b77:az Tryz.prog 77=true:=by kernel_rfl
def V.b78:az Tryz.prog 78=true:=by kernel_rfl
def V.ZV:az Tryz.prog 79=true:=by kernel_rfl
def V.YU:bo Tryz.prog 88 0=some 0:=by kernel_rfl
def V.s9:da Tryz.prog 9=true:=by kernel_rfl
def V.vz:sliceB Tryz.prog 84=some (88,2,40):=by kernel_rfl
end Go.Proofs.YtmaiakpjgomnpaaGreat
namespace Go.Proofs.YtmaiakpjgomnpaaGreat
open Go.Sl 
attribute [local irreducible] ag.aq aa.gZ aa.gN aa.eg aa.gu aa.fL aa.iB aa.gQ aa.first aa.cut aa.gi aa.fx aa.aY
structure Ce where
 k:List Int
 p:Option Addr
 c:Nat
 d:List Int
def Ce.ch (x:Ce):aa.Ch:=⟨x.k,x.d⟩
def WC (x:Ce):Option Addr×List Int:=(x.p,x.d)
abbrev CK:Ec Ce:=⟨88,2,fun x=>[.string (strOfNums x.k),.slice x.p x.d.length x.c],⟨[],none,0,[]⟩,fun _=>rfl,fun _=>rfl⟩
abbrev DK (l:List Ce):ad:=H0 U5 WC l
def Ee (x:Ce):Prop:=x.d.length≤x.c
def C8{es:List Ce}{x:Ce}(h:∀y∈es,Ee y)(hx:x.d.length≤x.c):∀y∈es++[x],Ee y:=fun y hy=>(List.mem_append.1 hy).elim (h y) (fun e=>List.mem_singleton.1 e▸hx)
def JS(bt:Nat)(p:Option Addr)(c n:Nat)(L:List Int)(R:ad)(hR:∀w0 h,R w0 h→aE U5 p n L w0 h)(hn:L.length=n)(hl:n<500000000)(hB:ag.aq L)(hcap:n≤c)(e:Int)(hf:aa.first L=.error e):aA Tryz.prog 79 [.slice p n c,.pointer (soz bt)] [ai bt 175 (CA [] .u32 aa.fL []),R] (aF fun v G=>v=.tuple #[.agg #[.string ByteArray.empty,.slice none 0 0],I6 0,I6 e]∧G=[ai bt 175 (CA [] .u32 aa.fL []),R]):=by
 subst hn
 refine(Ex bt p c L R hR hl hB hcap).mono ?_
 rintro e2 G ⟨v,rfl,(⟨e',h,rfl,rfl⟩|⟨x,q,cq,h,_,_⟩)⟩
 ·rw[hf] at h;cases h;exact⟨_,rfl,rfl,rfl⟩
 ·rw[hf] at h;cases h
def Lu(bt:Nat)(p:Option Addr)(c n:Nat)(L:List Int)(R:ad)(hR:∀w0 h,R w0 h→aE U5 p n L w0 h)(hn:L.length=n)(hl:n<500000000)(hB:ag.aq L)(hcap:n≤c)(x:aa.Ch)(hf:aa.first L=.ok x):aA Tryz.prog 79 [.slice p n c,.pointer (soz bt)] [ai bt 175 (CA [] .u32 aa.fL []),R] (aF fun v G=>∃q cq,v=.tuple #[.agg #[.string (strOfNums x.k),.slice q x.d.length cq],I6 ((12+x.d.length:Nat):Int),I6 0]∧G=[Row U5 q x.d.length cq x.d,ai bt 175 (CA [] .u32 aa.fL []),R]):=by
 subst hn
 refine(Ex bt p c L R hR hl hB hcap).mono ?_
 rintro e2 G ⟨v,rfl,(⟨e',h,_,_⟩|⟨x',q,cq,h,rfl,rfl⟩)⟩
 ·rw[hf] at h;cases h
 ·rw[hf] at h;cases h;exact⟨_,rfl,q,cq,rfl,rfl⟩
def y8(p:Option Addr)(c n:Nat)(L:List Int)(R:ad)(hR:∀w0 h,R w0 h→aE U5 p n L w0 h)(hn:L.length=n)(hB:ag.aq L)(hcap:n≤c)(p2:Option Addr)(c2 n2:Nat)(D:List Int)(R2:ad)(hR2:∀w0 h,R2 w0 h→aE U5 p2 n2 D w0 h)(hn2:D.length=n2)(hD:ag.aq D)(hlen:n2≤n)(t:Bool)(ht:t=decide (L.take n2=D)):aA Tryz.prog 77 [.slice p n c,.slice p2 n2 c2] [R,R2] (aF fun v G=>v=.bool t∧G=[R,R2]):=by
 subst hn;subst hn2;exact JI p c L R hR hB hcap p2 c2 D R2 hR2 hD hlen t ht

def N9(p:Option Addr)(c:Nat)(B:List Int)(R:ad)(hR:∀w0 h,R w0 h→aE U5 p B.length B w0 h)(hl:B.length<500000000)(hB:ag.aq B)(hcap:B.length≤c):aA Tryz.prog 37 [.slice p B.length c] [R] (aF fun v G=>(∃e,aa.cut B=.error e∧v=.tuple #[.slice none 0 0,I6 e]∧G=[R])∨(∃q cq,∃es:List Ce,aa.cut B=.ok (es.map Ce.ch)∧es.length≤262144∧(∀y∈es,Ee y)∧v=.tuple #[.slice q es.length cq,I6 0]∧G=[Row CK q es.length cq es,DK es,R])):=by
 refine ao [(0,_)] Tryz.func37 rfl Tryz.ntmps37 rfl rfl ?_
 intro w0 F
 refine(QQ) ?_
 refine aQ (VI) V.b76 rfl .nil rfl ?_
 rintro _ _ ⟨b10,rfl,rfl⟩
 refine(Q6) ?_
 rcases(aa.It B) with⟨h1,hc⟩|⟨h1,hc⟩|⟨h1,h2,hsg,hc⟩|⟨h1,h2,hsg,hc⟩
 ·refine(Q4)<|(Qp)<|(Qq) ?_
  exact af (bR rfl rfl) (.inl ⟨3,hc,rfl,rfl⟩) (sub (.cons ar .nil) bg)
 ·refine(Q4)<|(Qo)<|(Qg)<|(QG)<|(Qq) ?_
  exact af (bR rfl rfl) (.inl ⟨2,hc,rfl,rfl⟩) (sub (.cons ar .nil) bg)
 ·refine rC TT 4 rfl ?_
  refine oV (bC (cR rfl rfl) omg) ?_
  refine rO TT 10 rfl ?_
  refine oV (bC (dD rfl rfl) omg) ?_
  refine rO TT 8 rfl ?_
  refine oC (y8 p c B.length B R hR rfl hB hcap (soz b10) 8 8 aa.fx (Row U5 (soz b10) 8 8 aa.fx) (fun _ _ hh=>hh.rd) aa.AD aa.rW omg false (decide_eq_false hsg).symm) V.b77 rfl (.cons ar (an .nil)) rfl ?_
  refine rO TT 14 rfl ?_
  exact af (bR rfl rfl) (.inl ⟨4,hc,rfl,rfl⟩) (sub (an .nil) bg)
 ·refine rC TT 4 rfl ?_
  refine oV (bC (cR rfl rfl) omg) ?_
  refine rO TT 10 rfl ?_
  refine oV (bC (dD rfl rfl) omg) ?_
  refine rO TT 8 rfl ?_
  refine oC (y8 p c B.length B R hR rfl hB hcap (soz b10) 8 8 aa.fx (Row U5 (soz b10) 8 8 aa.fx) (fun _ _ hh=>hh.rd) aa.AD aa.rW omg true (decide_eq_true hsg).symm) V.b77 rfl (.cons ar (an .nil)) rfl ?_
  refine rO TT 10 rfl ?_
  refine aQ (XO) V.b78 rfl .nil rfl ?_
  rintro _ _ ⟨b26,rfl,rfl⟩
  refine(Qq) ?_
  refine oV (dZ 8 B.length c V.bT rfl ⟨_,rfl⟩ ⟨rfl,rfl⟩ rfl omg omg omg)<|(Q7) ?_
  refine gL (DK []) (DO _ _ _ _)<|gL (Row CK none 0 0 []) (Row.nil _ _ _) ?_
  rw[show B.length-8=(B.drop 8).length from List.length_drop.symm]
  refine Dg (fun(f:Nat) (pz:Option Addr) (cz:Nat) (Z:List Int) (pl:Option Addr) (cl:Nat) (es:List Ce)=>[(0,.slice pz Z.length cz),(5,.pointer (soz b26)),(6,.slice pl es.length cl)]) (fun(f:Nat) (pz:Option Addr) (cz:Nat) (Z:List Int) (pl:Option Addr) (cl:Nat) (es:List Ce)=>Row CK pl es.length cl es::DK es::ai b26 175 (CA [] .u32 aa.fL [])::R::F) (fun(f:Nat) (pz:Option Addr) (cz:Nat) (Z:List Int) (pl:Option Addr) (cl:Nat) (es:List Ce)=>aa.gi f Z (es.map Ce.ch)=aa.cut B∧Z.length<f∧(∀w0 h,R w0 h→aE U5 pz Z.length Z w0 h)∧Z.length≤cz∧ag.aq Z∧es.length+Z.length≤262144∧(∀y∈es,Ee y)) (fun(f:Nat) (pz:Option Addr) (cz:Nat) (Z:List Int) (pl:Option Addr) (cl:Nat) (es:List Ce)=>f) (i7 ((B.length+1)) ((cM p 8 c 1)) ((c-8)) ((B.drop 8)) (none) (0) ([]) ?_ (eo ln) (sub (jm .nil) bg)) ?_
  ·exact⟨hc,by rw[List.length_drop];omega,by rw[List.length_drop];exact eB (c:=U5) hR rfl 8 c omg hcap,by rw[List.length_drop];omega,aa.cA hB 8,by rw[List.length_drop];show 0+_≤_;omega,fun y hy=>by cases hy⟩
  intro f pz cz Z pl cl es
  rintro⟨hcut,hZf,hZR,hZc,hZB,hes,hco⟩
  obtain⟨f,rfl⟩:∃g,f=g+1:=⟨f-1,omg⟩
  refine rL TT 1 rfl ?_
  rcases(aa.acy hZB) with⟨e,hf,he⟩|⟨x,hf,hxl,hxn,hxB,hk⟩|⟨x,hf,hxl,hxn,hxB,hk⟩|⟨x,hf,hxl,hxn,hxB,hk⟩
  ·refine(Q4) ?_
   refine oC (JS b26 pz cz Z.length Z R hZR rfl omg hZB hZc e hf) V.ZV rfl (.cons aL (.cons aL .nil)) rfl<|(Q7)<|(Bv) ?_
   intro b7
   refine(vZ)<|(Qe)<|(NH)<|(QC) ?_
   rw[aa.qi hf] at hcut
   exact af (bR rfl rfl) (.inl ⟨e,hcut.symm,rfl,rfl⟩) (sub (.cons aL .nil) gF)
  ·refine(Q4)<|(Su) ?_
   rintro _ _ ⟨q35,c35,rfl,rfl⟩
   refine(Q7)<|(Bv) ?_
   intro b7
   refine(vZ)<|(Qe)<|(UL)<|(Qn)<|(Tg)<|(Q1)<|(Gi)<|(Wf) ?_
   intro EN
   refine(UO) ?_
   intro p47 c47
   refine(Q6) ?_
   refine fe (fun w hi=>eb hi (show Row U5 q35 x.d.length c35 x.d∈_ by exact fX)) (fun hcx=>?_)
   refine(TH)<|(Q5) ?_
   refine oV (aB V.s9 rfl fX rfl)<|oV (cn (v:=.bool true) (lz (r:=false) (rU (aa.aT (aa.oo hxn)) (aa.aT aa.mO) hk) rfl (show au _ _=some (.string (strOfNums aa.aY)) by unfold aa.aY;rfl)) rfl)<|(Q1) ?_
   have hdl:(Z.drop (12+x.d.length)).length=Z.length-(12+x.d.length):=List.length_drop
   have hel:(es++[(Ce.mk x.k q35 c35 x.d)]).length=es.length+1:=by rw[List.length_append];rfl
   rw[aa.Jr hf hk,show es.map Ce.ch++[x]=(es++[(Ce.mk x.k q35 c35 x.d)]).map Ce.ch from by rw[List.map_append];rfl] at hcut
   rw[←hdl,←hel]
   exact j7 f _ _ (Z.drop (12+x.d.length)) _ _ (es++[(Ce.mk x.k q35 c35 x.d)]) ⟨⟨hcut,omg,by rw[hdl];exact eB (c:=U5) hZR rfl (12+x.d.length) cz omg hZc,omg,aa.cA hZB _,omg,C8 hco hcx⟩,omg⟩ (.cons rfl (.cons rfl (.cons rfl (.nil _)))) (sub (.cons ar (.cons dJ (.cons aL (.cons aL .nil)))) dC)
  ·refine(Q4)<|(Su) ?_
   rintro _ _ ⟨q35,c35,rfl,rfl⟩
   refine(Q7)<|(Bv) ?_
   intro b7
   refine(vZ)<|(Qe)<|(UL)<|(Qn)<|(Tg)<|(Q1)<|(Gi)<|(Wf) ?_
   intro EN
   refine(UO) ?_
   intro p47 c47
   refine(Q6) ?_
   refine fe (fun w hi=>eb hi (show Row U5 q35 x.d.length c35 x.d∈_ by exact fX)) (fun hcx=>?_)
   refine(TH)<|(Q5) ?_
   refine oV (aB V.s9 rfl fX rfl)<|(Q7J)<|(Qg)<|(Qo)<|(QO) ?_
   have hel:(es++[(Ce.mk x.k q35 c35 x.d)]).length=es.length+1:=by rw[List.length_append];rfl
   rw[aa.JE hf hk hxl,show es.map Ce.ch++[x]=(es++[(Ce.mk x.k q35 c35 x.d)]).map Ce.ch from by rw[List.map_append];rfl] at hcut
   rw[←hel]
   exact af (bR rfl rfl) (.inr ⟨_,_,_,hcut.symm,omg,C8 hco hcx,rfl,rfl⟩) (sub (.cons ar (an (.cons cB .nil))) iW)
  ·refine(Q4)<|(Su) ?_
   rintro _ _ ⟨q35,c35,rfl,rfl⟩
   refine(Q7)<|(Bv) ?_
   intro b7
   refine(vZ)<|(Qe)<|(UL)<|(Qn)<|(Tg)<|(Q1)<|(Gi)<|(Wf) ?_
   intro EN
   refine(UO) ?_
   intro p47 c47
   refine(Q6) ?_
   refine fe (fun w hi=>eb hi (show Row U5 q35 x.d.length c35 x.d∈_ by exact fX)) (fun hcx=>?_)
   refine(TH)<|(Q5) ?_
   refine oV (aB V.s9 rfl fX rfl)<|(Q7J)<|(Qg)<|(Qp)<|(QE) ?_
   rw[aa.Hb hf hk hxl] at hcut
   exact af (bR rfl rfl) (.inl ⟨4,hcut.symm,rfl,rfl⟩) (sub (.cons jX .nil) NI)
end Go.Proofs.YtmaiakpjgomnpaaGreat
namespace Go.Proofs.YtmaiakpjgomnpaaGreat
open Go.Sl
def V.VN:az Tryz.prog 113=true:=by kernel_rfl
def V.W3:az Tryz.prog 114=true:=by kernel_rfl
def V.aek:bo Tryz.prog 137 0=some 0:=by kernel_rfl
def V.adK:bo Tryz.prog 137 1=some 1:=by kernel_rfl
def V.adZ:bo Tryz.prog 137 2=some 2:=by kernel_rfl
def V.aea:bo Tryz.prog 137 3=some 3:=by kernel_rfl
end Go.Proofs.YtmaiakpjgomnpaaGreat
namespace Go.Proofs.YtmaiakpjgomnpaaGreat
open Go.Sl 
attribute [local irreducible] ag.aq aa.gZ aa.gN aa.eg aa.gu aa.fL aa.iB aa.aW aa.aR aa.ba aa.aY aa.bM aa.gS aa.dp

def IQ(kk:List Int)(hk:ag.aq kk)(hkl:kk.length<500000000)(t:Bool)(ht:t=decide (aa.gS kk)):aA Tryz.prog 114 [.string (strOfNums kk)] [] (aF fun v G=>v=.bool t∧G=[]):=by
 refine ao [(0,_)] Tryz.func114 rfl Tryz.ntmps114 rfl rfl ?_
 intro w0 F
 refine(QV) ?_
 rcases(Classical.em (aa.dp kk)) with hnm|hnm
 ·refine(Q3) ?_
  refine oC (og kk hk omg true (decide_eq_true hnm).symm) V.u4 rfl .nil rfl<|(Qm)<|(Q7K)<|(Q1) ?_
  (rw[show decide (kk.getD 0 0≤90)=t from(aa.Tb ht hnm).symm];exact af (G:=[]) (aw rfl) ⟨rfl,rfl⟩ (sub .nil aj))
 ·refine(Q3) ?_
  refine oC (og kk hk omg false (decide_eq_false hnm).symm) V.u4 rfl .nil rfl<|(Qn) ?_
  (obtain rfl:t=false:=aa.Uq ht hnm;exact af (G:=[]) (aw rfl) ⟨rfl,rfl⟩ (sub .nil aj))

def Rs(b:Nat)(pl tr id_ ov:Bool):aA Tryz.prog 113 [.pointer (soz b),.pointer (soz b)] [ai b 137 [.bool pl,.bool tr,.bool id_,.bool ov]] (aF fun v G=>v=.bool (!pl&& !id_)∧G=[ai b 137 [.bool true,.bool tr,.bool id_,.bool ov]]):=by
 refine ao [(0,_),(1,_)] Tryz.func113 rfl Tryz.ntmps113 rfl rfl ?_
 intro w0 F
 refine(QV) ?_
 rcases((by cases pl;exact .inl rfl;exact .inr rfl:pl=false∨pl=true)) with rfl|rfl
 ·refine(Q4)<|(nP)<|(sx)<|(nP)<|(Q0) ?_
  refine oV (n8 rfl)<|(Qe)<|(Cd)<|(Qn) ?_
  exact af (aw rfl) ⟨rfl,rfl⟩ (sub (an .nil) aj)
 ·refine(Q4)<|(nP)<|(QC)<|(Cd)<|(Qn) ?_
  exact af (aw rfl) ⟨rfl,rfl⟩ (sub (an .nil) aj)

def PY(b:Nat)(pl tr id_ ov:Bool):aA Tryz.prog 113 [.pointer (soz b),.pointer (some ⟨b,1,none⟩)] [ai b 137 [.bool pl,.bool tr,.bool id_,.bool ov]] (aF fun v G=>v=.bool (!tr&& !id_)∧G=[ai b 137 [.bool pl,.bool true,.bool id_,.bool ov]]):=by
 refine ao [(0,_),(1,_)] Tryz.func113 rfl Tryz.ntmps113 rfl rfl ?_
 intro w0 F
 refine(QV) ?_
 rcases((by cases tr;exact .inl rfl;exact .inr rfl:tr=false∨tr=true)) with rfl|rfl
 ·refine(Q4)<|(nP)<|(sx)<|(nP)<|(Q0) ?_
  refine oV (n8 rfl)<|(Qe)<|(Cd)<|(Qn) ?_
  exact af (aw rfl) ⟨rfl,rfl⟩ (sub (an .nil) aj)
 ·refine(Q4)<|(nP)<|(QC)<|(Cd)<|(Qn) ?_
  exact af (aw rfl) ⟨rfl,rfl⟩ (sub (an .nil) aj)

def TW(b:Nat)(pl tr id_ ov:Bool)(x:Ce)(hxk:ag.aq x.k)(hxl:x.k.length<500000000):aA Tryz.prog 80 [.pointer (soz b),.agg #[.string (strOfNums x.k),.slice x.p x.d.length x.c]] [ai b 137 [.bool pl,.bool tr,.bool id_,.bool ov]] (aF fun v G=>v=.bool (aa.cV ⟨pl,tr,id_,ov⟩ x.ch).2∧G=[ai b 137 [.bool (aa.cV ⟨pl,tr,id_,ov⟩ x.ch).1.plte,.bool (aa.cV ⟨pl,tr,id_,ov⟩ x.ch).1.trns,.bool (aa.cV ⟨pl,tr,id_,ov⟩ x.ch).1.bS,.bool (aa.cV ⟨pl,tr,id_,ov⟩ x.ch).1.lC]]):=by
 refine ao [(0,_),(1,_)] Tryz.func80 rfl Tryz.ntmps80 rfl rfl ?_
 intro w0 F
 refine(QK) ?_
 refine jg rfl (cs:=[_,_]) rfl rfl ?_
 intro b3
 refine(Qc) ?_
 rcases(aa.XI x.k tr) with h1|⟨h1,h2,rfl⟩|⟨h1,h2,rfl⟩|⟨h1,h2,h3⟩|⟨h1,h2,h3,h4⟩|⟨h1,h2,h3,h4,h5⟩|⟨h1,h2,h3,h4,h5⟩
 ·refine(Q4)<|(qA) ?_
  refine oV (fD (aa.aT hxk) (aa.aT aa.mM) rfl (show au _ _=some (.string (strOfNums aa.aW)) by unfold aa.aW;rfl) (decide_eq_true h1).symm)<|(Qe)<|(zE)<|(Qd)<|(vO) ?_
  refine oV (n8 rfl)<|(Q6) ?_
  exact af (aw rfl) (by rw[show(aa.cV ⟨pl,tr,id_,ov⟩ x.ch)=_ from aa.acx h1];exact⟨rfl,rfl⟩) (sub (.cons ar .nil) bg)
 ·refine(Q4)<|(qA)<|(CJ)<|(Qj)<|(vO)<|(Q9)<|(zE)<|(Q1)<|(uN)<|(Ze)<|(Qn)<|(vO)<|(QE) ?_
  (exact af (G:=[ai b 137 [.bool pl,.bool true,.bool id_,.bool id_]]) (aw rfl) (by rw[show(aa.cV ⟨pl,true,id_,ov⟩ x.ch)=_ from aa.Yk h1 h2];exact⟨rfl,rfl⟩) (sub (.cons ar .nil) bg))
 ·refine(Q4)<|(qA)<|(CJ)<|(Qj)<|(vO)<|(Q9)<|(zE)<|(Q1)<|(uN)<|(Ze)<|(Qn)<|(vO)<|(Q1)<|(Q0) ?_
  refine oC (Rs b pl false id_ id_) V.VN rfl (.cons ar .nil) rfl<|(Qd) ?_
  (exact af (G:=[ai b 137 [.bool true,.bool false,.bool id_,.bool id_]]) (aw rfl) (by rw[show(aa.cV ⟨pl,false,id_,ov⟩ x.ch)=_ from aa.YP h1 h2];exact⟨rfl,rfl⟩) (sub (an .nil) bg))
 ·refine(Q4)<|(qA)<|(CJ)<|(Qj)<|(vO)<|(Q9)<|(zE)<|(Q1)<|(uN)<|(Np)<|(Q1) ?_
  refine oV (fD (aa.aT hxk) (aa.aT aa.mD) rfl (show au _ _=some (.string (strOfNums aa.ba)) by unfold aa.ba;rfl) (decide_eq_true h3).symm)<|(Qg) ?_
  refine oC (PY b pl tr id_ id_) V.VN rfl (.cons ar .nil) rfl<|(Q1) ?_
  exact af (aw rfl) (by rw[show(aa.cV ⟨pl,tr,id_,ov⟩ x.ch)=_ from aa.abY h1 h2 h3];exact⟨rfl,rfl⟩) (sub (an .nil) bg)
 ·refine(Q4)<|(qA)<|(CJ)<|(Qj)<|(vO)<|(Q9)<|(zE)<|(Q1)<|(uN)<|(Np)<|(Q1)<|(SJ)<|(Qg)<|(qA) ?_
  refine oC (og x.k hxk omg false (decide_eq_false h4).symm) V.u4 rfl .nil rfl<|(Qg) ?_
  (exact af (G:=[ai b 137 [.bool pl,.bool tr,.bool id_,.bool id_]]) (aw rfl) (by rw[show(aa.cV ⟨pl,tr,id_,ov⟩ x.ch)=_ from aa.Lw (r:=false) h1 h2 h3 (aa.acQ h4)];exact⟨rfl,rfl⟩) (sub (.cons ar .nil) bg))
 ·refine(Q4)<|(qA)<|(CJ)<|(Qj)<|(vO)<|(Q9)<|(zE)<|(Q1)<|(uN)<|(Np)<|(Q1)<|(SJ)<|(Qg)<|(qA)<|(Z1)<|(Qm)<|(qA)<|(Q0) ?_
  refine oC (IQ x.k hxk omg true (decide_eq_true h5).symm) V.W3 rfl .nil rfl<|(Q1) ?_
  (exact af (G:=[ai b 137 [.bool pl,.bool tr,.bool id_,.bool id_]]) (aw rfl) (by rw[show(aa.cV ⟨pl,tr,id_,ov⟩ x.ch)=_ from aa.Lw (r:=false) h1 h2 h3 (aa.aca h5)];exact⟨rfl,rfl⟩) (sub (.cons ar .nil) bg))
 ·refine(Q4)<|(qA)<|(CJ)<|(Qj)<|(vO)<|(Q9)<|(zE)<|(Q1)<|(uN)<|(Np)<|(Q1)<|(SJ)<|(Qg)<|(qA)<|(Z1)<|(Qm)<|(qA)<|(Q0) ?_
  refine oC (IQ x.k hxk omg false (decide_eq_false h5).symm) V.W3 rfl .nil rfl<|(Q1) ?_
  (exact af (G:=[ai b 137 [.bool pl,.bool tr,.bool id_,.bool id_]]) (aw rfl) (by rw[show(aa.cV ⟨pl,tr,id_,ov⟩ x.ch)=_ from aa.Lw (r:=true) h1 h2 h3 (aa.acs h4 h5)];exact⟨rfl,rfl⟩) (sub (.cons ar .nil) bg))
end Go.Proofs.YtmaiakpjgomnpaaGreat
namespace Go.Proofs.YtmaiakpjgomnpaaGreat
open Go.Sl
def V.b80:az Tryz.prog 80=true:=by kernel_rfl
def V.X6:bo Tryz.prog 88 1=some 1:=by kernel_rfl
def V.Yb:eQ Tryz.prog 137=some [(0,1),(1,1),(2,1),(3,1)]:=by kernel_rfl
def V.abJ:cW Tryz.prog 137=some ([.bool false,.bool false,.bool false,.bool false]):=by kernel_rfl
end Go.Proofs.YtmaiakpjgomnpaaGreat
namespace Go.Proofs.YtmaiakpjgomnpaaGreat
open Go.Sl 
attribute [local irreducible] ag.aq aa.gZ aa.gN aa.eg aa.gu aa.fL aa.iB aa.aW aa.aR aa.ba aa.aY aa.bM aa.gS aa.dp aa.dH aa.cV aa.walk aa.bj
def U8(es:List Ce)(i:Nat):((es.map Ce.ch).map aa.Ch.k).getD i []=(CK.g es (i:Int)).k:=by
 show _=(es.getD i _).k
 simp only[List.getD_eq_getElem?_getD,List.getElem?_map]
 cases es[i]?<;>rfl
def VX(es:List Ce)(i:Nat):((es.map Ce.ch).map (·.d.length)).getD i 0=(CK.g es (i:Int)).d.length:=by
 show _=(es.getD i _).d.length
 simp only[List.getD_eq_getElem?_getD,List.getElem?_map]
 cases es[i]?<;>rfl
def SI{es:List Ce}{i:Nat}(h:i<es.length-2):(aa.bj (es.map Ce.ch))[i]?=some (CK.g ((es.drop 1).take (es.length-1-1)) (i:Int)).ch:=by
 rw[aa.PB (by rw[List.length_map];exact h),List.getElem?_map]
 have e:CK.g ((es.drop 1).take (es.length-1-1)) (i:Int)=es[1+i]'omg:=by
  show((es.drop 1).take (es.length-1-1)).getD i _=_
  rw[List.getD_eq_getElem?_getD,List.getElem?_take_of_lt omg,List.getElem?_drop,List.getElem?_eq_getElem omg]
  rfl
 rw[e,List.getElem?_eq_getElem omg]
 rfl
def mn{es:List Ce}{i:Nat}(P:Ce→Prop)(h:∀x∈es,P x)(hi:i<es.length):P (CK.g es (i:Int)):=by
 have:CK.g es (i:Int)=es[i]:=CK.zM hi
 rw[this]
 exact h _ (List.getElem_mem hi)
def Hz (es:List Ce):Prop:=∀x∈es,ag.aq x.k∧x.k.length<500000000

def RT(p:Option Addr)(c:Nat)(es:List Ce)(R:ad)(hR:∀w0 h,R w0 h→aE CK p es.length es w0 h)(hel:es.length≤262144)(hok:Hz es)(hcap:es.length≤c):aA Tryz.prog 38 [.slice p es.length c] [R] (aF fun v G=>v=I6 (aa.EX (es.map Ce.ch))∧G=[R]):=by
 refine ao [(0,_)] Tryz.func38 rfl Tryz.ntmps38 rfl rfl ?_
 intro w0 F
 have h6:=aa.acn (es.map Ce.ch)
 rw[List.length_map,U8,VX,U8,VX,show(((0:Nat):Int))=0 from rfl] at h6
 refine(QV) ?_
 rcases(h6) with⟨h3,ho⟩|⟨h3,hk0,ho⟩|⟨h3,hk0,hd0,ho⟩|⟨h3,hk0,hd0,hkn,ho⟩|⟨h3,hk0,hd0,hkn,hdn,ho⟩|⟨h3,hk0,hd0,hkn,hdn,ho⟩
 ·refine(EL)<|(QG) ?_
  refine rO TT 42 rfl ?_
  rw[←aa.eU ho]
  exact af (aw rfl) ⟨rfl,rfl⟩ (sub (an .nil) aj)
 ·refine(Q4)<|(GQ)<|(Q6) ?_
  have hb0:ag.aq (CK.g es 0).k:=(mn (i:=0) (fun x=>ag.aq x.k∧x.k.length<500000000) hok omg).1
  have hbn:=(mn (i:=(es.length-1)) (fun x=>ag.aq x.k∧x.k.length<500000000) hok omg).1
  refine(Q5) ?_
  refine(QL) ?_
  refine(Q9) ?_
  refine(Q0) ?_
  refine(oO) ?_
  refine(Q0) ?_
  refine(zt) ?_
  refine(Q0) ?_
  refine(zh) ?_
  refine(Q0) ?_
  refine oV (cn (v:=.bool true) (lz (r:=false) (rU (aa.aT hb0) (aa.aT aa.xz) hk0) rfl (show au _ _=some (.string (strOfNums aa.bM)) by unfold aa.bM;rfl)) rfl) ?_
  refine rO TT 36 rfl ?_
  rw[←aa.eU ho]
  exact af (aw rfl) ⟨rfl,rfl⟩ (sub (an .nil) aj)
 ·refine(Q4)<|(GQ)<|(Q6) ?_
  have hb0:ag.aq (CK.g es 0).k:=(mn (i:=0) (fun x=>ag.aq x.k∧x.k.length<500000000) hok omg).1
  have hbn:=(mn (i:=(es.length-1)) (fun x=>ag.aq x.k∧x.k.length<500000000) hok omg).1
  refine(Q5) ?_
  refine(QL) ?_
  refine(Q9) ?_
  refine(Q0) ?_
  refine(oO) ?_
  refine(Q0) ?_
  refine(zt) ?_
  refine(Q0) ?_
  refine(zh) ?_
  refine(Q0) ?_
  refine(L0) ?_
  refine(Qc) ?_
  refine(Q0) ?_
  refine(oO) ?_
  refine(Q0) ?_
  refine(tx) ?_
  refine(Q0) ?_
  refine(Dl) ?_
  refine(Q0) ?_
  refine(m7) ?_
  refine(Q0) ?_
  refine oV (bQ (bO rfl rfl) (fun hh=>hd0 omg)) ?_
  refine rO TT 28 rfl ?_
  rw[←aa.eU ho]
  exact af (aw rfl) ⟨rfl,rfl⟩ (sub (an .nil) aj)
 ·refine(Q4)<|(GQ)<|(Q6) ?_
  have hb0:ag.aq (CK.g es 0).k:=(mn (i:=0) (fun x=>ag.aq x.k∧x.k.length<500000000) hok omg).1
  have hbn:=(mn (i:=(es.length-1)) (fun x=>ag.aq x.k∧x.k.length<500000000) hok omg).1
  refine(Q5) ?_
  refine(QL) ?_
  refine(Q9) ?_
  refine(Q0) ?_
  refine(oO) ?_
  refine(Q0) ?_
  refine(zt) ?_
  refine(Q0) ?_
  refine(zh) ?_
  refine(Q0) ?_
  refine(L0) ?_
  refine(Qc) ?_
  refine(Q0) ?_
  refine(oO) ?_
  refine(Q0) ?_
  refine(tx) ?_
  refine(Q0) ?_
  refine(Dl) ?_
  refine(Q0) ?_
  refine(m7) ?_
  refine(Q0) ?_
  refine(Nh) ?_
  refine(Q7) ?_
  refine(Q0) ?_
  refine(oO) ?_
  refine(Q0) ?_
  refine(zt) ?_
  refine(Q0) ?_
  refine(zh) ?_
  refine(Q0) ?_
  refine oV (cn (v:=.bool true) (lz (r:=false) (rU (aa.aT hbn) (aa.aT aa.mO) hkn) rfl (show au _ _=some (.string (strOfNums aa.aY)) by unfold aa.aY;rfl)) rfl) ?_
  refine rO TT 20 rfl ?_
  rw[←aa.eU ho]
  exact af (aw rfl) ⟨rfl,rfl⟩ (sub (an .nil) aj)
 ·refine(Q4)<|(GQ)<|(Q6) ?_
  have hb0:ag.aq (CK.g es 0).k:=(mn (i:=0) (fun x=>ag.aq x.k∧x.k.length<500000000) hok omg).1
  have hbn:=(mn (i:=(es.length-1)) (fun x=>ag.aq x.k∧x.k.length<500000000) hok omg).1
  refine(Q5) ?_
  refine(QL) ?_
  refine(Q9) ?_
  refine(Q0) ?_
  refine(oO) ?_
  refine(Q0) ?_
  refine(zt) ?_
  refine(Q0) ?_
  refine(zh) ?_
  refine(Q0) ?_
  refine(L0) ?_
  refine(Qc) ?_
  refine(Q0) ?_
  refine(oO) ?_
  refine(Q0) ?_
  refine(tx) ?_
  refine(Q0) ?_
  refine(Dl) ?_
  refine(Q0) ?_
  refine(m7) ?_
  refine(Q0) ?_
  refine(Nh) ?_
  refine(Q7) ?_
  refine(Q0) ?_
  refine(oO) ?_
  refine(Q0) ?_
  refine(zt) ?_
  refine(Q0) ?_
  refine(zh) ?_
  refine(Q0) ?_
  refine(Za) ?_
  refine(Q7) ?_
  refine(Q0) ?_
  refine(oO) ?_
  refine(Q0) ?_
  refine(tx) ?_
  refine(Q0) ?_
  refine(Dl) ?_
  refine(Q0) ?_
  refine(m7) ?_
  refine(Q0) ?_
  refine(Qp) ?_
  refine(Qj) ?_
  rw[←aa.eU ho]
  exact af (aw rfl) ⟨rfl,rfl⟩ (sub (an .nil) aj)
 ·refine(Q4)<|(GQ)<|(Q6) ?_
  have hb0:ag.aq (CK.g es 0).k:=(mn (i:=0) (fun x=>ag.aq x.k∧x.k.length<500000000) hok omg).1
  have hbn:=(mn (i:=(es.length-1)) (fun x=>ag.aq x.k∧x.k.length<500000000) hok omg).1
  refine(Q5) ?_
  refine(QL) ?_
  refine(Q9) ?_
  refine(Q0) ?_
  refine(oO) ?_
  refine(Q0) ?_
  refine(zt) ?_
  refine(Q0) ?_
  refine(zh) ?_
  refine(Q0) ?_
  refine(L0) ?_
  refine(Qc) ?_
  refine(Q0) ?_
  refine(oO) ?_
  refine(Q0) ?_
  refine(tx) ?_
  refine(Q0) ?_
  refine(Dl) ?_
  refine(Q0) ?_
  refine(m7) ?_
  refine(Q0) ?_
  refine(Nh) ?_
  refine(Q7) ?_
  refine(Q0) ?_
  refine(oO) ?_
  refine(Q0) ?_
  refine(zt) ?_
  refine(Q0) ?_
  refine(zh) ?_
  refine(Q0) ?_
  refine(Za) ?_
  refine(Q7) ?_
  refine(Q0) ?_
  refine(oO) ?_
  refine(Q0) ?_
  refine(tx) ?_
  refine(Q0) ?_
  refine(Dl) ?_
  refine(Q0) ?_
  refine(m7) ?_
  refine(Q0) ?_
  refine(Qo) ?_
  refine(Qe) ?_
  refine oV (cE V.Yb V.abJ rfl (cs:=[_,_,_,_]) rfl) ?_
  refine jg rfl (cs:=[.bool false,.bool false,.bool false,.bool false]) rfl rfl ?_
  intro CX
  refine(Q6) ?_
  have hM:∀w0 h,R w0 h→aE CK (cM p 1 c 2) ((es.length-1)-1) ((es.drop 1).take ((es.length-1)-1)) w0 h:=fun w0 h hh=>(hR w0 h hh).sub 1 (es.length-1) c omg omg omg
  refine(Q3) ?_
  refine oV (dZ 1 (es.length-1) c V.vz rfl ⟨_,rfl⟩ ⟨_,rfl⟩ rfl omg omg omg)<|(Q6) ?_
  refine gx (fun(i:Nat) (w:aa.Wk)=>[(4,.pointer (soz CX)),(48,.slice (cM p 1 c 2) ((es.length-1)-1) (c-1)),(49,I6 (((es.length-1)-1:Nat):Int)),(50,I6 (i:Int))]) (fun(i:Nat) (w:aa.Wk)=>ai CX 137 [.bool w.plte,.bool w.trns,.bool w.bS,.bool w.lC]::R::F) (fun(i:Nat) (w:aa.Wk)=>i≤es.length-2∧aa.walk ((aa.bj (es.map Ce.ch)).drop i) w=aa.walk (aa.bj (es.map Ce.ch)) aa.AQ) (fun(i:Nat) (w:aa.Wk)=>es.length-2-i) (i2 (0) (aa.AQ) ?_ (cK ln) (sub (aJ .nil) aj)) ?_
  ·exact⟨Nat.zero_le _,rfl⟩
  intro i w
  rintro⟨hi,hwk⟩
  refine(Qs) ?_
  refine av rfl (fun h51=>?_) (fun h51=>?_)
  ·refine(Qb) ?_
   have hmi:=SI (es:=es) (i:=i) omg
   have hxo:ag.aq (CK.g ((es.drop 1).take ((es.length-1)-1)) (i:Int)).k∧(CK.g ((es.drop 1).take ((es.length-1)-1)) (i:Int)).k.length<500000000:=mn (fun x=>ag.aq x.k∧x.k.length<500000000) (fun x hx=>hok x (List.mem_of_mem_drop (List.mem_of_mem_take hx))) (by rw[List.length_take,List.length_drop];omega)
   have hwn:=aa.SY (w:=w) _ hmi
   refine(QF) ?_
   refine oV (xI V.vz (by exact bK hM cX))<|oV (mU (c:=(CK)) V.qg rfl (by exact bK hM cX) omg omg rfl)<|(Bv) ?_
   intro b6
   refine(vZ)<|(Q9) ?_
   rcases(aa.T2 (aa.cV ⟨w.plte,w.trns,w.bS,w.lC⟩ (CK.g ((es.drop 1).take ((es.length-1)-1)) (i:Int)).ch).2) with hb|hb
   ·refine(Q3)<|(Gi)<|(ZW) ?_
    rw[hb]
    refine(zw) ?_
    have hb2:(aa.cV w (CK.g ((es.drop 1).take ((es.length-1)-1)) (i:Int)).ch).2=true:=hb
    rw[hb2] at hwn
    exact j2 (i+1) (aa.cV ⟨w.plte,w.trns,w.bS,w.lC⟩ (CK.g ((es.drop 1).take ((es.length-1)-1)) (i:Int)).ch).1 ⟨⟨omg,hwn.symm.trans hwk⟩,omg⟩ (cK ln) (sub (an (.cons ar .nil)) bg)
   ·refine(Q3)<|(Gi)<|(ZW) ?_
    rw[hb]
    refine(QC) ?_
    have hb2:(aa.cV w (CK.g ((es.drop 1).take ((es.length-1)-1)) (i:Int)).ch).2=false:=hb
    rw[hb2] at hwn
    rw[←aa.eU (aa.TS ho (hwk.symm.trans hwn))]
    exact af (aw rfl) ⟨rfl,rfl⟩ (sub (.cons aL .nil) dC)
  ·refine(Qb) ?_
   rcases(aa.T2 w.bS) with hb|hb
   ·refine(Q5) ?_
    rw[aa.GZ (by rw[aa.Ep (by rw[List.length_map];omega),List.length_map];omega)] at hwk
    refine(Q4)<|(nP) ?_
    rw[hb]
    refine(Qy) ?_
    rw[←aa.lh ((aa.Hl ho hwk.symm).trans hb)]
    exact af (aw rfl) ⟨rfl,rfl⟩ (sub (.cons ar .nil) bg)
   ·refine(Q5) ?_
    rw[aa.GZ (by rw[aa.Ep (by rw[List.length_map];omega),List.length_map];omega)] at hwk
    refine(Q4)<|(nP) ?_
    rw[hb]
    refine(Qj) ?_
    rw[←aa.eU ((aa.Hl ho hwk.symm).trans hb)]
    exact af (aw rfl) ⟨rfl,rfl⟩ (sub (.cons ar .nil) bg)
end Go.Proofs.YtmaiakpjgomnpaaGreat
namespace Go.Proofs.YtmaiakpjgomnpaaGreat
open Go.Sl
def V.ZL:az Tryz.prog 64=true:=by kernel_rfl
def V.BG:az Tryz.prog 65=true:=by kernel_rfl
def V.ZU:az Tryz.prog 66=true:=by kernel_rfl
def V.Kp:eQ Tryz.prog 57=some [(0,1),(1,1)]:=by kernel_rfl
def V.nL:sliceB Tryz.prog 59=some (57,2,40):=by kernel_rfl
def V.Dj:cW Tryz.prog 57=some ([.string .empty,.slice none 0 0]):=by kernel_rfl
end Go.Proofs.YtmaiakpjgomnpaaGreat
namespace Go.Proofs.YtmaiakpjgomnpaaGreat
open Go.Sl 
attribute [local irreducible] ag.aq aa.gZ aa.gN aa.eg aa.gu aa.fL aa.iB aa.gQ aa.first aa.cut aa.gi aa.fx aa.aY aa.dp aa.ph
abbrev aP:Ec Ce:=⟨57,2,fun x=>[.string (strOfNums x.k),.slice x.p x.d.length x.c],⟨[],none,0,[]⟩,fun _=>rfl,fun _=>rfl⟩

def kz(kk:List Int)(hk:ag.aq kk)(hkl:kk.length<500000000)(t:Bool)(ht:t=decide (aa.dp kk)):aA Tryz.prog 65 [.string (strOfNums kk)] [] (aF fun v G=>v=.bool t∧G=[]):=by
 refine ao [(0,_)] Tryz.func65 rfl Tryz.ntmps65 rfl rfl ?_
 intro w0 F
 refine(QV) ?_
 rcases(Classical.em (kk.length=4)) with h4|h4
 ·refine(Q4)<|(MH)<|(Nh)<|(Qy) ?_
  refine cF (fun(i:Nat)=>[(0,.string (strOfNums kk)),(3,I6 (i:Int))]) (fun(i:Nat)=>F) (fun(i:Nat)=>i≤4∧∀j,j<i→aa.kv (kk.getD j 0)) (fun(i:Nat)=>4-i) (i1 (0) ?_ (fF ln) (sub .nil aj)) ?_
  ·exact⟨Nat.zero_le _,fun j hj=>by omega⟩
  intro i
  rintro⟨hi,hall⟩
  refine(qP) ?_
  refine av rfl (fun h9=>?_) (fun h9=>?_)
  ·refine(pB)<|(Uj) ?_
   refine oV (kq (r:=(aa.ph (kk.getD i 0))) rfl rfl (by unfold aa.ph;rfl))<|(Qc) ?_
   rcases(aa.o3 (hk.get i)) with⟨h1,hn⟩|⟨h1,h2,hn⟩|⟨h1,h2,hl1⟩
   ·refine(Q3)<|(QG)<|(qK) ?_
    obtain rfl:t=false:=ht.trans (decide_eq_false (aa.xG hn omg))
    exact af (aw rfl) ⟨rfl,rfl⟩ (sub .nil aj)
   ·refine(Q3) ?_
    refine(QL) ?_
    refine(Q9) ?_
    refine(Q0) ?_
    refine(Qp) ?_
    refine(QC) ?_
    obtain rfl:t=false:=ht.trans (decide_eq_false (aa.xG hn omg))
    exact af (aw rfl) ⟨rfl,rfl⟩ (sub .nil aj)
   ·refine(Q3) ?_
    refine(QL) ?_
    refine(Q9) ?_
    refine(Q0) ?_
    refine(Qo) ?_
    refine(Co) ?_
    refine j1 (i+1) ?_ (fF ln) (sub .nil aj)
    exact⟨⟨omg,fun j hj=>(Nat.lt_succ_iff_lt_or_eq.1 hj).elim (hall j) (fun e=>e▸hl1)⟩,omg⟩
  ·refine(lW) ?_
   obtain rfl:i=4:=omg
   obtain rfl:t=true:=ht.trans (decide_eq_true ((aa.CU (by rw[h4];exact hall)).2 h4))
   exact af (aw rfl) ⟨rfl,rfl⟩ (sub .nil aj)
 ·refine(Q4)<|(MH) ?_
  refine oV (bQ (bO rfl rfl) (fun hh=>h4 omg))<|(Qg) ?_
  obtain rfl:t=false:=ht.trans (decide_eq_false (aa.Yz h4))
  exact af (aw rfl) ⟨rfl,rfl⟩ (sub .nil aj)
def Jf:aA Tryz.prog 64 [] [] (aF fun v G=>v=.string (strOfNums aa.fx)∧G=[]):=by
 refine ao [] Tryz.func64 rfl Tryz.ntmps64 rfl rfl ?_
 intro w0 F
 exact rT TT 11 rfl<|af (aw (show _=some (.string (strOfNums aa.fx)) by unfold aa.fx;rfl)) ⟨rfl,rfl⟩ (sub .nil aj)

def Nz(p:Option Addr)(c:Nat)(B:List Int)(R:ad)(hR:∀w0 h,R w0 h→aE U5 p B.length B w0 h)(hl:B.length<500000000)(hB:ag.aq B)(hcap:B.length≤c):aA Tryz.prog 43 [.slice p B.length c] [R] (aF fun v G=>(∃e,aa.cut B=.error e∧v=.tuple #[.slice none 0 0,I6 e]∧G=[R])∨(∃q cq,∃es:List Ce,aa.cut B=.ok (es.map Ce.ch)∧es.length≤262144∧v=.tuple #[.slice q es.length cq,I6 0]∧G=[Row aP q es.length cq es,DK es,R])):=by
 refine ao [(0,_)] Tryz.func43 rfl Tryz.ntmps43 rfl rfl ?_
 intro w0 F
 refine(QQ) ?_
 rcases(aa.It B) with⟨h1,hc⟩|⟨h1,hc⟩|⟨h1,h2,hsg,hc⟩|⟨h1,h2,hsg,hc⟩
 ·refine(Q4)<|(Qp)<|(Qq) ?_
  exact af (bR rfl rfl) (.inl ⟨3,hc,rfl,rfl⟩) (sub (an .nil) aj)
 ·refine(Q4)<|(Qo)<|(Qe)<|(QG)<|(Qq) ?_
  exact af (bR rfl rfl) (.inl ⟨2,hc,rfl,rfl⟩) (sub (an .nil) aj)
 ·refine(Q4)<|(Qo)<|(Qe)<|(QL)<|(Q6) ?_
  have hT8:∀w0 h,R w0 h→aE U5 p 8 (B.take 8) w0 h:=jo (cap:=0) hR 8 omg
  refine(Q7P) ?_
  refine nM ?_
  refine(Q7Q) ?_
  refine(Q7R) ?_
  refine(Q7S) ?_
  refine nV (fun y hA L=>cn (v:=.bool true) (lz (r:=false) (rU (aa.aT (aa.dS hB 8)) (aa.aT aa.rW) hsg) rfl rfl) rfl) ?_
  refine nA ?_
  refine(Qi) ?_
  intro y hA
  clear hA
  refine bJ<|(Q8J)<|(QN) ?_
  exact af (bR rfl rfl) (.inl ⟨4,hc,rfl,rfl⟩) (sub (an .nil) aj)
 ·refine(Q4)<|(Qo)<|(Qe)<|(QL)<|(Q6) ?_
  have hT8:∀w0 h,R w0 h→aE U5 p 8 (B.take 8) w0 h:=jo (cap:=0) hR 8 omg
  refine(Q7P) ?_
  refine nM ?_
  refine(Q7Q) ?_
  refine(Q7R) ?_
  refine(Q7S) ?_
  refine nV (fun y hA L=>cn (v:=.bool false) (lz (r:=true) (by rw[hsg];exact beq_self_eq_true _) rfl rfl) rfl) ?_
  refine nA ?_
  refine(Qi) ?_
  intro y hA
  clear hA
  refine bJ<|(Q8J) ?_
  refine rC TT 16 rfl<|gL (DK []) (DO _ _ _ _)<|gL (Row aP none 0 0 []) (Row.nil _ _ _) ?_
  refine tZ (fun(f:Nat) (a:Nat) (pl:Option Addr) (cl:Nat) (es:List Ce)=>[(0,.slice p B.length c),(4,.slice pl es.length cl),(5,I6 (a:Int))]) (fun(f:Nat) (a:Nat) (pl:Option Addr) (cl:Nat) (es:List Ce)=>Row aP pl es.length cl es::DK es::R::F) (fun(f:Nat) (a:Nat) (pl:Option Addr) (cl:Nat) (es:List Ce)=>aa.gi f (B.drop a) (es.map Ce.ch)=aa.cut B∧(B.drop a).length<f∧a≤B.length∧es.length+(B.drop a).length≤262144) (fun(f:Nat) (a:Nat) (pl:Option Addr) (cl:Nat) (es:List Ce)=>f) (i5 ((B.length+1)) (8) (none) (0) ([]) ?_ (eo ln) (sub (dV .nil) aj)) ?_
  ·exact⟨hc,by rw[List.length_drop];omega,omg,by rw[List.length_drop];show 0+_≤_;omega⟩
  intro f a pl cl es
  rintro⟨hcut,hZf,haB,hes⟩
  obtain⟨f,rfl⟩:∃g,f=g+1:=⟨f-1,omg⟩
  have hZB:=aa.cA hB a
  have hZl:(B.drop a).length=B.length-a:=List.length_drop
  refine rL TT 1 rfl ?_
  rcases(aa.XD hZB) with⟨h12,hf⟩|⟨n,h12,hn,hnb,hbig,hf⟩|⟨n,h12,hn,hnb,hnm,hf⟩|⟨n,h12,hn,hnb,hnm,hlt,hf⟩|⟨n,h12,hn,hnb,hnm,hge,hsum,hf⟩|⟨n,h12,hn,hnb,hnm,hge,hsum,hf,hk⟩|⟨n,h12,hn,hnb,hnm,hge,hsum,hf,hk⟩
  ·refine(r3)<|(QG)<|(QC) ?_
   rw[aa.qi hf] at hcut
   exact af (bR rfl rfl) (.inl ⟨2,hcut.symm,rfl,rfl⟩) (sub (.cons aL .nil) dC)
  ·refine(r3) ?_
   refine(QL) ?_
   refine(Q1) ?_
   have hv0:0≤(U5.g B (a:Int))∧(U5.g B (a:Int))<256:=hB.get _
   have hv1:0≤(U5.g B ((a+1:Nat):Int))∧(U5.g B ((a+1:Nat):Int))<256:=hB.get _
   have hv2:0≤(U5.g B ((a+2:Nat):Int))∧(U5.g B ((a+2:Nat):Int))<256:=hB.get _
   have hv3:0≤(U5.g B ((a+3:Nat):Int))∧(U5.g B ((a+3:Nat):Int))<256:=hB.get _
   have hnum:(U5.g B (a:Int))*16777216+(U5.g B ((a+1:Nat):Int))*65536+(U5.g B ((a+2:Nat):Int))*256+(U5.g B ((a+3:Nat):Int))=aC.bN (B.drop a):=aa.kT B a
   refine(jV) ?_
   refine(Qw) ?_
   refine(kg) ?_
   refine(ke) ?_
   refine(ie) ?_
   refine(De) ?_
   refine(Qw) ?_
   refine(Ef) ?_
   refine(kg) ?_
   refine(ke) ?_
   refine(ie) ?_
   refine(Dm) ?_
   refine(DT) ?_
   refine(Qw) ?_
   refine(DX) ?_
   refine(kg) ?_
   refine(ke) ?_
   refine(ie) ?_
   refine(EC) ?_
   refine(Er) ?_
   refine(Qw) ?_
   refine(El) ?_
   refine(kg) ?_
   refine(ke) ?_
   refine(ie)<|(Di)<|(qE)<|(By) ?_
   rw[hnum,hn]
   have hKS:∀w0 h,R w0 h→aE U5 (cM p (a+4) c 1) (a+8-(a+4)) (((B.drop a).drop 4).take 4) w0 h:=fun w0 h hh=>by have h1:=(hR w0 h hh).sub (a+4) (a+8) c omg omg omg;rw[show a+8-(a+4)=4 from by omega] at h1 ⊢;rw[List.drop_drop];exact h1
   refine(Q3)<|(Iq)<|(Q8)<|(pA)<|(HP)<|(IL)<|(Qd)<|(Qp) ?_
   refine rO TT 20 rfl ?_
   rw[aa.qi hf] at hcut
   exact af (bR rfl rfl) (.inl ⟨4,hcut.symm,rfl,rfl⟩) (sub (.cons aL .nil) dC)
  ·refine(r3) ?_
   refine(QL) ?_
   refine(Q1) ?_
   have hv0:0≤(U5.g B (a:Int))∧(U5.g B (a:Int))<256:=hB.get _
   have hv1:0≤(U5.g B ((a+1:Nat):Int))∧(U5.g B ((a+1:Nat):Int))<256:=hB.get _
   have hv2:0≤(U5.g B ((a+2:Nat):Int))∧(U5.g B ((a+2:Nat):Int))<256:=hB.get _
   have hv3:0≤(U5.g B ((a+3:Nat):Int))∧(U5.g B ((a+3:Nat):Int))<256:=hB.get _
   have hnum:(U5.g B (a:Int))*16777216+(U5.g B ((a+1:Nat):Int))*65536+(U5.g B ((a+2:Nat):Int))*256+(U5.g B ((a+3:Nat):Int))=aC.bN (B.drop a):=aa.kT B a
   refine(jV) ?_
   refine(Qw) ?_
   refine(kg) ?_
   refine(ke) ?_
   refine(ie) ?_
   refine(De) ?_
   refine(Qw) ?_
   refine(Ef) ?_
   refine(kg) ?_
   refine(ke) ?_
   refine(ie) ?_
   refine(Dm) ?_
   refine(DT) ?_
   refine(Qw) ?_
   refine(DX) ?_
   refine(kg) ?_
   refine(ke) ?_
   refine(ie) ?_
   refine(EC) ?_
   refine(Er) ?_
   refine(Qw) ?_
   refine(El) ?_
   refine(kg) ?_
   refine(ke) ?_
   refine(ie)<|(Di)<|(qE)<|(By) ?_
   rw[hnum,hn]
   have hKS:∀w0 h,R w0 h→aE U5 (cM p (a+4) c 1) (a+8-(a+4)) (((B.drop a).drop 4).take 4) w0 h:=fun w0 h hh=>by have h1:=(hR w0 h hh).sub (a+4) (a+8) c omg omg omg;rw[show a+8-(a+4)=4 from by omega] at h1 ⊢;rw[List.drop_drop];exact h1
   refine rC TT 3 rfl ?_
   refine oV (cn (v:=I6 ((a+4:Nat):Int)) (dw rfl rfl wI) (by congr 1)) ?_
   refine oV (jh rfl) ?_
   refine oV (cn (v:=I6 ((a+8:Nat):Int)) (dw rfl rfl wI) (by congr 1)) ?_
   refine oV (dZ (a+4) (a+8) c V.bT rfl ⟨_,rfl⟩ ⟨_,rfl⟩ rfl omg omg omg) ?_
   refine oV (px (T:=5) Tryz.underlying22 Tryz.underlying5 Tryz.underlying9 rfl (by exact bK hKS dz)) ?_
   refine rO TT 7 rfl ?_
   refine oV (bC (cR rfl rfl) omg) ?_
   refine rO TT 2 rfl ?_
   refine bB rfl ?_
   refine oC (kz (((B.drop a).drop 4).take 4) (aa.dS (aa.cA hZB 4) 4) (by rw[aa.gy omg];decide) false (decide_eq_false hnm).symm) V.BG rfl .nil rfl ?_
   refine rO TT 17 rfl ?_
   rw[aa.qi hf] at hcut
   exact af (bR rfl rfl) (.inl ⟨4,hcut.symm,rfl,rfl⟩) (sub (.cons aL .nil) dC)
  ·refine(r3) ?_
   refine(QL) ?_
   refine(Q1) ?_
   have hv0:0≤(U5.g B (a:Int))∧(U5.g B (a:Int))<256:=hB.get _
   have hv1:0≤(U5.g B ((a+1:Nat):Int))∧(U5.g B ((a+1:Nat):Int))<256:=hB.get _
   have hv2:0≤(U5.g B ((a+2:Nat):Int))∧(U5.g B ((a+2:Nat):Int))<256:=hB.get _
   have hv3:0≤(U5.g B ((a+3:Nat):Int))∧(U5.g B ((a+3:Nat):Int))<256:=hB.get _
   have hnum:(U5.g B (a:Int))*16777216+(U5.g B ((a+1:Nat):Int))*65536+(U5.g B ((a+2:Nat):Int))*256+(U5.g B ((a+3:Nat):Int))=aC.bN (B.drop a):=aa.kT B a
   refine(jV) ?_
   refine(Qw) ?_
   refine(kg) ?_
   refine(ke) ?_
   refine(ie) ?_
   refine(De) ?_
   refine(Qw) ?_
   refine(Ef) ?_
   refine(kg) ?_
   refine(ke) ?_
   refine(ie) ?_
   refine(Dm) ?_
   refine(DT) ?_
   refine(Qw) ?_
   refine(DX) ?_
   refine(kg) ?_
   refine(ke) ?_
   refine(ie) ?_
   refine(EC) ?_
   refine(Er) ?_
   refine(Qw) ?_
   refine(El) ?_
   refine(kg) ?_
   refine(ke) ?_
   refine(ie)<|(Di)<|(qE)<|(By) ?_
   rw[hnum,hn]
   have hKS:∀w0 h,R w0 h→aE U5 (cM p (a+4) c 1) (a+8-(a+4)) (((B.drop a).drop 4).take 4) w0 h:=fun w0 h hh=>by have h1:=(hR w0 h hh).sub (a+4) (a+8) c omg omg omg;rw[show a+8-(a+4)=4 from by omega] at h1 ⊢;rw[List.drop_drop];exact h1
   refine(Q3) ?_
   refine(Iq) ?_
   refine(Q8) ?_
   refine(pA) ?_
   refine(HP) ?_
   refine(IL) ?_
   refine(Qd) ?_
   refine(Qo) ?_
   refine(Q9) ?_
   refine(Q0) ?_
   refine(Nt) ?_
   refine(w5) ?_
   refine(QG) ?_
   refine(QC) ?_
   rw[aa.qi hf] at hcut
   exact af (bR rfl rfl) (.inl ⟨2,hcut.symm,rfl,rfl⟩) (sub (.cons aL .nil) dC)
  ·refine(r3) ?_
   refine(QL) ?_
   refine(Q1) ?_
   have hv0:0≤(U5.g B (a:Int))∧(U5.g B (a:Int))<256:=hB.get _
   have hv1:0≤(U5.g B ((a+1:Nat):Int))∧(U5.g B ((a+1:Nat):Int))<256:=hB.get _
   have hv2:0≤(U5.g B ((a+2:Nat):Int))∧(U5.g B ((a+2:Nat):Int))<256:=hB.get _
   have hv3:0≤(U5.g B ((a+3:Nat):Int))∧(U5.g B ((a+3:Nat):Int))<256:=hB.get _
   have hnum:(U5.g B (a:Int))*16777216+(U5.g B ((a+1:Nat):Int))*65536+(U5.g B ((a+2:Nat):Int))*256+(U5.g B ((a+3:Nat):Int))=aC.bN (B.drop a):=aa.kT B a
   refine(jV) ?_
   refine(Qw) ?_
   refine(kg) ?_
   refine(ke) ?_
   refine(ie) ?_
   refine(De) ?_
   refine(Qw) ?_
   refine(Ef) ?_
   refine(kg) ?_
   refine(ke) ?_
   refine(ie) ?_
   refine(Dm) ?_
   refine(DT) ?_
   refine(Qw) ?_
   refine(DX) ?_
   refine(kg) ?_
   refine(ke) ?_
   refine(ie) ?_
   refine(EC) ?_
   refine(Er) ?_
   refine(Qw) ?_
   refine(El) ?_
   refine(kg) ?_
   refine(ke) ?_
   refine(ie)<|(Di)<|(qE)<|(By) ?_
   rw[hnum,hn]
   have hKS:∀w0 h,R w0 h→aE U5 (cM p (a+4) c 1) (a+8-(a+4)) (((B.drop a).drop 4).take 4) w0 h:=fun w0 h hh=>by have h1:=(hR w0 h hh).sub (a+4) (a+8) c omg omg omg;rw[show a+8-(a+4)=4 from by omega] at h1 ⊢;rw[List.drop_drop];exact h1
   refine(Q3) ?_
   refine(Iq) ?_
   refine(Q8) ?_
   refine(pA) ?_
   refine(HP) ?_
   refine(IL) ?_
   refine(Qd) ?_
   refine(Qo) ?_
   refine(Q9) ?_
   refine(Q0) ?_
   refine(Nt) ?_
   refine(w5) ?_
   refine(QL) ?_
   refine(Q1) ?_
   have hk4:=aa.dS (aa.cA hZB 4) 4
   have uy:=aa.dS (aa.cA hZB 8) n
   have hdl:=aa.gy (l:=(B.drop a)) (i:=8) (n:=n) omg
   have hDS:∀w0 h,R w0 h→aE U5 (cM p (a+8) c 1) (a+8+n-(a+8)) (((B.drop a).drop 8).take n) w0 h:=fun w0 h hh=>by have h1:=(hR w0 h hh).sub (a+8) (a+8+n) c omg omg omg;rw[Nat.add_sub_cancel_left] at h1 ⊢;rw[List.drop_drop];exact h1
   refine(Q3)<|(pA)<|(Q8)<|(pA)<|(Q8)<|(CF)<|(Wo)<|(Oi)<|(Sn) ?_
   intro p87 c87
   refine(Q7) ?_
   rw[List.nil_append,show 0+(a+8+n-(a+8))=(((B.drop a).drop 8).take n).length from by rw[hdl];omega]
   refine(Q5)<|(pA)<|(Q8)<|(CF)<|(Q7) ?_
   have hu0:0≤(U5.g B (((a+8+n):Nat):Int))∧(U5.g B (((a+8+n):Nat):Int))<256:=hB.get _
   have hu1:0≤(U5.g B (((a+8+n)+1:Nat):Int))∧(U5.g B (((a+8+n)+1:Nat):Int))<256:=hB.get _
   have hu2:0≤(U5.g B (((a+8+n)+2:Nat):Int))∧(U5.g B (((a+8+n)+2:Nat):Int))<256:=hB.get _
   have hu3:0≤(U5.g B (((a+8+n)+3:Nat):Int))∧(U5.g B (((a+8+n)+3:Nat):Int))<256:=hB.get _
   have hnum2:(U5.g B (((a+8+n):Nat):Int))*16777216+(U5.g B (((a+8+n)+1:Nat):Int))*65536+(U5.g B (((a+8+n)+2:Nat):Int))*256+(U5.g B (((a+8+n)+3:Nat):Int))=aC.bN (B.drop (a+8+n)):=aa.kT B (a+8+n)
   rw[show B.drop (a+8+n)=(B.drop a).drop (8+n) from by rw[List.drop_drop,Nat.add_assoc]] at hnum2
   refine(jV) ?_
   refine(Qw) ?_
   refine(pW) ?_
   refine(ql) ?_
   refine(lU) ?_
   refine(Tl) ?_
   refine(Qw) ?_
   refine(Sc) ?_
   refine(pW) ?_
   refine(ql) ?_
   refine(lU) ?_
   refine(Wb) ?_
   refine(Uc) ?_
   refine(Qw) ?_
   refine(V7) ?_
   refine(pW) ?_
   refine(ql) ?_
   refine(lU) ?_
   refine(S0) ?_
   refine(UW) ?_
   refine(Qw) ?_
   refine(SC) ?_
   refine(pW) ?_
   refine(ql) ?_
   refine(lU)<|(R5)<|(qE)<|(lq) ?_
   refine rN TT 3 rfl ?_
   rw[hnum2]
   refine(Q4)<|(R3) ?_
   refine oV (bQ (bO rfl rfl) hsum)<|(QC) ?_
   rw[aa.qi hf] at hcut
   exact af (bR rfl rfl) (.inl ⟨5,hcut.symm,rfl,rfl⟩) (sub (.cons cB .nil) iW)
  ·refine(r3) ?_
   refine(QL) ?_
   refine(Q1) ?_
   have hv0:0≤(U5.g B (a:Int))∧(U5.g B (a:Int))<256:=hB.get _
   have hv1:0≤(U5.g B ((a+1:Nat):Int))∧(U5.g B ((a+1:Nat):Int))<256:=hB.get _
   have hv2:0≤(U5.g B ((a+2:Nat):Int))∧(U5.g B ((a+2:Nat):Int))<256:=hB.get _
   have hv3:0≤(U5.g B ((a+3:Nat):Int))∧(U5.g B ((a+3:Nat):Int))<256:=hB.get _
   have hnum:(U5.g B (a:Int))*16777216+(U5.g B ((a+1:Nat):Int))*65536+(U5.g B ((a+2:Nat):Int))*256+(U5.g B ((a+3:Nat):Int))=aC.bN (B.drop a):=aa.kT B a
   refine(jV) ?_
   refine(Qw) ?_
   refine(kg) ?_
   refine(ke) ?_
   refine(ie) ?_
   refine(De) ?_
   refine(Qw) ?_
   refine(Ef) ?_
   refine(kg) ?_
   refine(ke) ?_
   refine(ie) ?_
   refine(Dm) ?_
   refine(DT) ?_
   refine(Qw) ?_
   refine(DX) ?_
   refine(kg) ?_
   refine(ke) ?_
   refine(ie) ?_
   refine(EC) ?_
   refine(Er) ?_
   refine(Qw) ?_
   refine(El) ?_
   refine(kg) ?_
   refine(ke) ?_
   refine(ie)<|(Di)<|(qE)<|(By) ?_
   rw[hnum,hn]
   have hKS:∀w0 h,R w0 h→aE U5 (cM p (a+4) c 1) (a+8-(a+4)) (((B.drop a).drop 4).take 4) w0 h:=fun w0 h hh=>by have h1:=(hR w0 h hh).sub (a+4) (a+8) c omg omg omg;rw[show a+8-(a+4)=4 from by omega] at h1 ⊢;rw[List.drop_drop];exact h1
   refine(Q3) ?_
   refine(Iq) ?_
   refine(Q8) ?_
   refine(pA) ?_
   refine(HP) ?_
   refine(IL) ?_
   refine(Qd) ?_
   refine(Qo) ?_
   refine(Q9) ?_
   refine(Q0) ?_
   refine(Nt) ?_
   refine(w5) ?_
   refine(QL) ?_
   refine(Q1) ?_
   have hk4:=aa.dS (aa.cA hZB 4) 4
   have uy:=aa.dS (aa.cA hZB 8) n
   have hdl:=aa.gy (l:=(B.drop a)) (i:=8) (n:=n) omg
   have hDS:∀w0 h,R w0 h→aE U5 (cM p (a+8) c 1) (a+8+n-(a+8)) (((B.drop a).drop 8).take n) w0 h:=fun w0 h hh=>by have h1:=(hR w0 h hh).sub (a+8) (a+8+n) c omg omg omg;rw[Nat.add_sub_cancel_left] at h1 ⊢;rw[List.drop_drop];exact h1
   refine(Q3)<|(pA)<|(Q8)<|(pA)<|(Q8)<|(CF)<|(Wo)<|(Oi)<|(Sn) ?_
   intro p87 c87
   refine(Q7) ?_
   rw[List.nil_append,show 0+(a+8+n-(a+8))=(((B.drop a).drop 8).take n).length from by rw[hdl];omega]
   refine(Q5)<|(pA)<|(Q8)<|(CF)<|(Q7) ?_
   have hu0:0≤(U5.g B (((a+8+n):Nat):Int))∧(U5.g B (((a+8+n):Nat):Int))<256:=hB.get _
   have hu1:0≤(U5.g B (((a+8+n)+1:Nat):Int))∧(U5.g B (((a+8+n)+1:Nat):Int))<256:=hB.get _
   have hu2:0≤(U5.g B (((a+8+n)+2:Nat):Int))∧(U5.g B (((a+8+n)+2:Nat):Int))<256:=hB.get _
   have hu3:0≤(U5.g B (((a+8+n)+3:Nat):Int))∧(U5.g B (((a+8+n)+3:Nat):Int))<256:=hB.get _
   have hnum2:(U5.g B (((a+8+n):Nat):Int))*16777216+(U5.g B (((a+8+n)+1:Nat):Int))*65536+(U5.g B (((a+8+n)+2:Nat):Int))*256+(U5.g B (((a+8+n)+3:Nat):Int))=aC.bN (B.drop (a+8+n)):=aa.kT B (a+8+n)
   rw[show B.drop (a+8+n)=(B.drop a).drop (8+n) from by rw[List.drop_drop,Nat.add_assoc]] at hnum2
   refine(jV) ?_
   refine(Qw) ?_
   refine(pW) ?_
   refine(ql) ?_
   refine(lU) ?_
   refine(Tl) ?_
   refine(Qw) ?_
   refine(Sc) ?_
   refine(pW) ?_
   refine(ql) ?_
   refine(lU) ?_
   refine(Wb) ?_
   refine(Uc) ?_
   refine(Qw) ?_
   refine(V7) ?_
   refine(pW) ?_
   refine(ql) ?_
   refine(lU) ?_
   refine(S0) ?_
   refine(UW) ?_
   refine(Qw) ?_
   refine(SC) ?_
   refine(pW) ?_
   refine(ql) ?_
   refine(lU)<|(R5)<|(qE)<|(lq) ?_
   refine rN TT 3 rfl ?_
   rw[hnum2]
   refine(Q4)<|(R3)<|(Sr)<|(Qe)<|(Z4)<|(Qe)<|(Zi)<|(Q7V) ?_
   intro b132
   refine(Q7W) ?_
   intro p133 c133
   refine(Q7)<|(Q7X)<|(Q5) ?_
   refine oV (fD (aa.aT (aa.oo hnm)) (aa.aT aa.mO) rfl (show au _ _=some (.string (strOfNums aa.aY)) by unfold aa.aY;rfl) (decide_eq_false hk).symm)<|(Q6) ?_
   have hel:(es++[(Ce.mk (((B.drop a).drop 4).take 4) p87 c87 (((B.drop a).drop 8).take n))]).length=es.length+1:=by rw[List.length_append];rfl
   have hz2:(B.drop a).drop (12+(((B.drop a).drop 8).take n).length)=B.drop (a+12+n):=by rw[List.drop_drop,hdl,Nat.add_assoc]
   have hz3:(B.drop (a+12+n)).length=B.length-(a+12+n):=List.length_drop
   rw[aa.Jr hf hk,show es.map Ce.ch++[(⟨(((B.drop a).drop 4).take 4),(((B.drop a).drop 8).take n)⟩:aa.Ch)]=(es++[(Ce.mk (((B.drop a).drop 4).take 4) p87 c87 (((B.drop a).drop 8).take n))]).map Ce.ch from by rw[List.map_append];rfl] at hcut
   rw[←hel]
   have hcut2:aa.gi f (B.drop (a+12+n)) ((es++[(Ce.mk (((B.drop a).drop 4).take 4) p87 c87 (((B.drop a).drop 8).take n))]).map Ce.ch)=aa.cut B:=by rw[←hz2];exact hcut
   exact j5 f (a+12+n) _ _ (es++[(Ce.mk (((B.drop a).drop 4).take 4) p87 c87 (((B.drop a).drop 8).take n))]) ⟨⟨hcut2,omg,omg,omg⟩,omg⟩ (eo ln) (sub (.cons ar (an (.cons ar .nil))) bg)
  ·refine(r3) ?_
   refine(QL) ?_
   refine(Q1) ?_
   have hv0:0≤(U5.g B (a:Int))∧(U5.g B (a:Int))<256:=hB.get _
   have hv1:0≤(U5.g B ((a+1:Nat):Int))∧(U5.g B ((a+1:Nat):Int))<256:=hB.get _
   have hv2:0≤(U5.g B ((a+2:Nat):Int))∧(U5.g B ((a+2:Nat):Int))<256:=hB.get _
   have hv3:0≤(U5.g B ((a+3:Nat):Int))∧(U5.g B ((a+3:Nat):Int))<256:=hB.get _
   have hnum:(U5.g B (a:Int))*16777216+(U5.g B ((a+1:Nat):Int))*65536+(U5.g B ((a+2:Nat):Int))*256+(U5.g B ((a+3:Nat):Int))=aC.bN (B.drop a):=aa.kT B a
   refine(jV) ?_
   refine(Qw) ?_
   refine(kg) ?_
   refine(ke) ?_
   refine(ie) ?_
   refine(De) ?_
   refine(Qw) ?_
   refine(Ef) ?_
   refine(kg) ?_
   refine(ke) ?_
   refine(ie) ?_
   refine(Dm) ?_
   refine(DT) ?_
   refine(Qw) ?_
   refine(DX) ?_
   refine(kg) ?_
   refine(ke) ?_
   refine(ie) ?_
   refine(EC) ?_
   refine(Er) ?_
   refine(Qw) ?_
   refine(El) ?_
   refine(kg) ?_
   refine(ke) ?_
   refine(ie)<|(Di)<|(qE)<|(By) ?_
   rw[hnum,hn]
   have hKS:∀w0 h,R w0 h→aE U5 (cM p (a+4) c 1) (a+8-(a+4)) (((B.drop a).drop 4).take 4) w0 h:=fun w0 h hh=>by have h1:=(hR w0 h hh).sub (a+4) (a+8) c omg omg omg;rw[show a+8-(a+4)=4 from by omega] at h1 ⊢;rw[List.drop_drop];exact h1
   refine(Q3) ?_
   refine(Iq) ?_
   refine(Q8) ?_
   refine(pA) ?_
   refine(HP) ?_
   refine(IL) ?_
   refine(Qd) ?_
   refine(Qo) ?_
   refine(Q9) ?_
   refine(Q0) ?_
   refine(Nt) ?_
   refine(w5) ?_
   refine(QL) ?_
   refine(Q1) ?_
   have hk4:=aa.dS (aa.cA hZB 4) 4
   have uy:=aa.dS (aa.cA hZB 8) n
   have hdl:=aa.gy (l:=(B.drop a)) (i:=8) (n:=n) omg
   have hDS:∀w0 h,R w0 h→aE U5 (cM p (a+8) c 1) (a+8+n-(a+8)) (((B.drop a).drop 8).take n) w0 h:=fun w0 h hh=>by have h1:=(hR w0 h hh).sub (a+8) (a+8+n) c omg omg omg;rw[Nat.add_sub_cancel_left] at h1 ⊢;rw[List.drop_drop];exact h1
   refine(Q3)<|(pA)<|(Q8)<|(pA)<|(Q8)<|(CF)<|(Wo)<|(Oi)<|(Sn) ?_
   intro p87 c87
   refine(Q7) ?_
   rw[List.nil_append,show 0+(a+8+n-(a+8))=(((B.drop a).drop 8).take n).length from by rw[hdl];omega]
   refine(Q5)<|(pA)<|(Q8)<|(CF)<|(Q7) ?_
   have hu0:0≤(U5.g B (((a+8+n):Nat):Int))∧(U5.g B (((a+8+n):Nat):Int))<256:=hB.get _
   have hu1:0≤(U5.g B (((a+8+n)+1:Nat):Int))∧(U5.g B (((a+8+n)+1:Nat):Int))<256:=hB.get _
   have hu2:0≤(U5.g B (((a+8+n)+2:Nat):Int))∧(U5.g B (((a+8+n)+2:Nat):Int))<256:=hB.get _
   have hu3:0≤(U5.g B (((a+8+n)+3:Nat):Int))∧(U5.g B (((a+8+n)+3:Nat):Int))<256:=hB.get _
   have hnum2:(U5.g B (((a+8+n):Nat):Int))*16777216+(U5.g B (((a+8+n)+1:Nat):Int))*65536+(U5.g B (((a+8+n)+2:Nat):Int))*256+(U5.g B (((a+8+n)+3:Nat):Int))=aC.bN (B.drop (a+8+n)):=aa.kT B (a+8+n)
   rw[show B.drop (a+8+n)=(B.drop a).drop (8+n) from by rw[List.drop_drop,Nat.add_assoc]] at hnum2
   refine(jV) ?_
   refine(Qw) ?_
   refine(pW) ?_
   refine(ql) ?_
   refine(lU) ?_
   refine(Tl) ?_
   refine(Qw) ?_
   refine(Sc) ?_
   refine(pW) ?_
   refine(ql) ?_
   refine(lU) ?_
   refine(Wb) ?_
   refine(Uc) ?_
   refine(Qw) ?_
   refine(V7) ?_
   refine(pW) ?_
   refine(ql) ?_
   refine(lU) ?_
   refine(S0) ?_
   refine(UW) ?_
   refine(Qw) ?_
   refine(SC) ?_
   refine(pW) ?_
   refine(ql) ?_
   refine(lU)<|(R5)<|(qE)<|(lq) ?_
   refine rN TT 3 rfl ?_
   rw[hnum2]
   refine(Q4)<|(R3)<|(Sr)<|(Qe)<|(Z4)<|(Qe)<|(Zi)<|(Q7V) ?_
   intro b132
   refine(Q7W) ?_
   intro p133 c133
   refine(Q7)<|(Q7X)<|(Q5) ?_
   refine oV (fD (aa.aT (aa.oo hnm)) (aa.aT aa.mO) rfl (show au _ _=some (.string (strOfNums aa.aY)) by unfold aa.aY;rfl) (decide_eq_true hk).symm)<|(Qe) ?_
   rcases(Nat.lt_or_ge (a+12+n) B.length) with hend|hend
   ·refine(Qf)<|(QG)<|(Qj) ?_
    rw[aa.Hb hf hk (by show 12+(((B.drop a).drop 8).take n).length<_;omega)] at hcut
    exact af (bR rfl rfl) (.inl ⟨4,hcut.symm,rfl,rfl⟩) (sub (.cons cB .nil) iW)
   ·refine(Qf)<|(QL)<|(Qq) ?_
    have hel:(es++[(Ce.mk (((B.drop a).drop 4).take 4) p87 c87 (((B.drop a).drop 8).take n))]).length=es.length+1:=by rw[List.length_append];rfl
    rw[aa.JE hf hk (by show 12+(((B.drop a).drop 8).take n).length=_;omega),show es.map Ce.ch++[(⟨(((B.drop a).drop 4).take 4),(((B.drop a).drop 8).take n)⟩:aa.Ch)]=(es++[(Ce.mk (((B.drop a).drop 4).take 4) p87 c87 (((B.drop a).drop 8).take n))]).map Ce.ch from by rw[List.map_append];rfl] at hcut
    rw[←hel]
    exact af (bR rfl rfl) (.inr ⟨_,_,_,hcut.symm,omg,rfl,rfl⟩) (sub (.cons ar (an (.cons ar .nil))) bg)
end Go.Proofs.YtmaiakpjgomnpaaGreat
namespace Go.Proofs.YtmaiakpjgomnpaaGreat
open Go.Sl
def V.ZJ:az Tryz.prog 87=true:=by kernel_rfl
def V.Fh:bo Tryz.prog 57 0=some 0:=by kernel_rfl
def V.E9:bo Tryz.prog 57 1=some 1:=by kernel_rfl
end Go.Proofs.YtmaiakpjgomnpaaGreat
namespace Go.Proofs.YtmaiakpjgomnpaaGreat
open Go.Sl 
attribute [local irreducible] ag.aq aa.gZ aa.gN aa.eg aa.gu aa.fL aa.iB aa.aW aa.aR aa.ba aa.aY aa.bM aa.dp aa.dH aa.bE aa.jK aa.lD
def nz{es:List Ce}{i:Nat}(h:i<es.length):(es.map Ce.ch)[i]?=some (aP.g es (i:Int)).ch:=by
 rw[List.getElem?_map,List.getElem?_eq_getElem h]
 have:aP.g es (i:Int)=es[i]:=aP.zM h
 rw[this];rfl
def jl{es:List Ce}{i:Nat}(P:Ce→Prop)(h:∀x∈es,P x)(hi:i<es.length):P (aP.g es (i:Int)):=by
 have:aP.g es (i:Int)=es[i]:=aP.zM hi
 rw[this]
 exact h _ (List.getElem_mem hi)

def HG(kk:List Int)(hk:ag.aq kk)(hkl:kk.length<500000000)(t:Bool)(ht:t=decide (aa.dp kk∧kk.getD 0 0<97)):aA Tryz.prog 87 [.string (strOfNums kk)] [] (aF fun v G=>v=.bool t∧G=[]):=by
 refine ao [(0,_)] Tryz.func87 rfl Tryz.ntmps87 rfl rfl ?_
 intro w0 F
 refine(QV) ?_
 rcases(Classical.em (aa.dp kk)) with hnm|hnm
 ·refine(Q3) ?_
  refine oC (kz kk hk omg true (decide_eq_true hnm).symm) V.BG rfl .nil rfl<|(Qm)<|(Q7K)<|(Q1) ?_
  (rw[show decide (kk.getD 0 0<97)=t from(aa.VP ht hnm).symm];exact af (G:=[]) (aw rfl) ⟨rfl,rfl⟩ (sub .nil aj))
 ·refine(Q3) ?_
  refine oC (kz kk hk omg false (decide_eq_false hnm).symm) V.BG rfl .nil rfl<|(Qn) ?_
  (obtain rfl:t=false:=aa.Pg ht hnm;exact af (G:=[]) (aw rfl) ⟨rfl,rfl⟩ (sub .nil aj))

def Px(p:Option Addr)(c:Nat)(es:List Ce)(R:ad)(hR:∀w0 h,R w0 h→aE aP p es.length es w0 h)(hel:es.length≤262144)(hok:Hz es)(hcap:es.length≤c):aA Tryz.prog 44 [.slice p es.length c] [R] (aF fun v G=>v=I6 (aa.EX (es.map Ce.ch))∧G=[R]):=by
 refine ao [(0,_)] Tryz.func44 rfl Tryz.ntmps44 rfl rfl ?_
 intro w0 F
 refine rT TT 21 rfl ?_
 refine dP (fun(i:Nat) (prev:List Int) (s:aa.Od)=>[(0,.slice p es.length c),(3,I6 (s.eE:Int)),(4,I6 (s.ends:Int)),(5,I6 (s.eX:Int)),(6,I6 (s.dT:Int)),(7,I6 (s.cG:Int)),(8,I6 (i:Int))]) (fun(i:Nat) (prev:List Int) (s:aa.Od)=>R::F) (fun(i:Nat) (prev:List Int) (s:aa.Od)=>i≤es.length∧(0<i→prev=(aP.g es ((i-1:Nat):Int)).k)∧s.eE≤i∧s.ends≤i∧s.eX≤i∧s.dT≤i∧s.cG≤i∧aa.jK es.length i prev ((es.map Ce.ch).drop i) s=aa.dH (es.map Ce.ch)) (fun(i:Nat) (prev:List Int) (s:aa.Od)=>es.length-i) (i3 (0) ([]) (⟨0,0,0,0,0⟩) ?_ (fF (bb ln)) (sub (an .nil) aj)) ?_
 ·exact⟨Nat.zero_le _,fun h=>absurd h dec,Nat.le_refl _,Nat.le_refl _,Nat.le_refl _,Nat.le_refl _,Nat.le_refl _,by have:=aa.ET (es.map Ce.ch);rw[List.length_map] at this;exact this⟩
 intro i prev s
 rintro⟨hi,hprev,q1,q2,q3,q4,q5,hgo⟩
 refine(pe) ?_
 refine av rfl (fun h12=>?_) (fun h12=>?_)
 ·refine(Qb) ?_
  have hcx:=nz (es:=es) (i:=i) omg
  have hxo:=jl (i:=i) (fun x=>ag.aq x.k∧x.k.length<500000000) hok omg
  have hxk:ag.aq (aP.g es (i:Int)).k:=hxo.1
  have hxl:(aP.g es (i:Int)).k.length<500000000:=hxo.2
  have hxd:(aP.g es (i:Int)).ch.d.length=(aP.g es (i:Int)).d.length:=rfl
  refine(Q3)<|(ox)<|(qu)<|(uA)<|(Qc) ?_
  rcases(aa.ab4 es.length i prev (aP.g es (i:Int)).ch s) with⟨a0,a1,hs⟩|⟨a0,a1,a2,hs⟩|⟨a0,a1,a2,hs⟩|⟨a0,a1,a2,hs⟩|⟨a0,a1,a2,a3,hs⟩|⟨a0,a1,a2,a3,hs⟩|⟨a0,a1,a2,a3,a4,hs⟩|⟨a0,a1,a2,a3,a4,hs⟩|⟨a0,a1,a2,a3,hs⟩|⟨a0,a1,a2,a3,a4,hs⟩|⟨a0,a1,a2,a3,a4,a5,hs⟩|⟨a0,a1,a2,a3,a4,a5,hs⟩|⟨a0,a1,a2,a3,a4,a5,hs⟩|⟨a0,a1,a2,a3,a4,a5,hs⟩|⟨a0,a1,a2,a3,a4,a5,hs⟩|⟨a0,a1,a2,a3,a4,a5,a6,hs⟩|⟨a0,a1,a2,a3,a4,a5,a6,hs⟩
  ·refine(Q5)<|(TD)<|(uB)<|(Qp) ?_
   refine rO TT 24 rfl ?_
   rw[←aa.eU (aa.mW hgo hcx hs)]
   exact af (aw rfl) ⟨rfl,rfl⟩ (sub (an .nil) aj)
  ·refine(Q5) ?_
   refine(TD) ?_
   refine(uB) ?_
   refine(Qo) ?_
   refine(Qc) ?_
   refine(Q0) ?_
   refine(ox) ?_
   refine(Q0) ?_
   refine(sY) ?_
   refine(Q0) ?_
   refine(Iw) ?_
   refine(Q0) ?_
   refine(m7) ?_
   refine(Q0) ?_
   refine(yZ) ?_
   refine(QO) ?_
   rw[←aa.eU (aa.mW hgo hcx hs)]
   exact af (aw rfl) ⟨rfl,rfl⟩ (sub (an .nil) aj)
  ·refine(Q5) ?_
   refine(TD) ?_
   refine(uB) ?_
   refine(Qo) ?_
   refine(Qc) ?_
   refine(Q0) ?_
   refine(ox) ?_
   refine(Q0) ?_
   refine(sY) ?_
   refine(Q0) ?_
   refine(Iw) ?_
   refine(Q0) ?_
   refine(m7) ?_
   refine(Q0) ?_
   refine(QM) ?_
   refine(ES) ?_
   exact j3 (i+1) _ _ ⟨⟨omg,fun _=>rfl,by exact Nat.succ_le_succ q1,by exact Nat.le_succ_of_le q2,by exact Nat.le_succ_of_le q3,by exact Nat.le_succ_of_le q4,by exact Nat.le_succ_of_le q5,aa.ru hgo hcx hs⟩,omg⟩ (fF (bb ln)) (sub (an .nil) aj)
  ·refine(Q51)<|(W8) ?_
   refine jC TT 17 rfl omg<|(QG) ?_
   refine rO TT 24 rfl ?_
   rw[←aa.eU (aa.mW hgo hcx hs)]
   exact af (aw rfl) ⟨rfl,rfl⟩ (sub (an .nil) aj)
  ·refine(Q5) ?_
   refine(JD) ?_
   refine(Q1) ?_
   refine(W8) ?_
   refine jC TT 17 rfl omg ?_
   refine(QL) ?_
   refine(Qc) ?_
   refine(Q0) ?_
   refine(ox) ?_
   refine(Q0) ?_
   refine(sY) ?_
   refine(Q0) ?_
   refine(Iw) ?_
   refine(Q0) ?_
   refine(m7) ?_
   refine(Q0) ?_
   refine(Qp) ?_
   refine(QO) ?_
   rw[←aa.eU (aa.mW hgo hcx hs)]
   exact af (aw rfl) ⟨rfl,rfl⟩ (sub (an .nil) aj)
  ·refine(Q5) ?_
   refine(JD) ?_
   refine(Q1) ?_
   refine(W8) ?_
   refine jC TT 17 rfl omg ?_
   refine(QL) ?_
   refine(Qc) ?_
   refine(Q0) ?_
   refine(ox) ?_
   refine(Q0) ?_
   refine(sY) ?_
   refine(Q0) ?_
   refine(Iw) ?_
   refine(Q0) ?_
   refine(m7) ?_
   refine(Q0) ?_
   refine(Qo) ?_
   refine(ES) ?_
   exact j3 (i+1) _ _ ⟨⟨omg,fun _=>rfl,by exact Nat.le_succ_of_le q1,by exact Nat.succ_le_succ q2,by exact Nat.le_succ_of_le q3,by exact Nat.le_succ_of_le q4,by exact Nat.le_succ_of_le q5,aa.ru hgo hcx hs⟩,omg⟩ (fF (bb ln)) (sub (an .nil) aj)
  ·refine(xm)<|(Ob)<|(Q1) ?_
   have hpi:=hprev omg
   have hpb:ag.aq (aP.g es ((i-1:Nat):Int)).k:=(jl (i:=i-1) (fun x=>ag.aq x.k∧x.k.length<500000000) hok omg).1
   have hpk:(aP.g es ((i-1:Nat):Int)).k≠aa.aW:=hpi▸a4
   refine(Q5)<|(Qp)<|(Qk)<|(Q7Y)<|(Q0)<|(ox)<|(Q0)<|(qu)<|(Q0)<|(uA)<|(Q0) ?_
   refine oV (cn (v:=.bool true) (lz (r:=false) (rU (aa.aT hpb) (aa.aT aa.mM) hpk) rfl (show au _ _=some (.string (strOfNums aa.aW)) by unfold aa.aW;rfl)) rfl)<|(rZ) ?_
   rw[←aa.eU (aa.mW hgo hcx hs)]
   exact af (aw rfl) ⟨rfl,rfl⟩ (sub (an .nil) aj)
  ·refine(xm)<|(Ob)<|(Q1) ?_
   have hpi:=hprev omg
   have hpb:ag.aq (aP.g es ((i-1:Nat):Int)).k:=(jl (i:=i-1) (fun x=>ag.aq x.k∧x.k.length<500000000) hok omg).1
   have hpk:(aP.g es ((i-1:Nat):Int)).k=aa.aW:=hpi▸a4
   refine(Q5)<|(Qp)<|(Qk)<|(Q7Y)<|(Q0)<|(ox)<|(Q0)<|(qu)<|(Q0)<|(uA)<|(Q0) ?_
   exact oV (cn (v:=.bool false) (lz (r:=true) (by rw[hpk];exact beq_self_eq_true _) rfl (show au _ _=some (.string (strOfNums aa.aW)) by unfold aa.aW;rfl)) rfl)<|jC TT 19 rfl omg<|j3 (i+1) _ _ ⟨⟨omg,fun _=>rfl,by exact Nat.le_succ_of_le q1,by exact Nat.le_succ_of_le q2,by exact Nat.le_succ_of_le q3,by exact Nat.le_succ_of_le q4,by exact Nat.succ_le_succ q5,aa.ru hgo hcx hs⟩,omg⟩ (fF (bb ln)) (sub (an .nil) aj)
  ·refine(xm)<|(Ob)<|(Qe)<|(Qo) ?_
   exact jC TT 27 rfl omg<|j3 (i+1) _ _ ⟨⟨omg,fun _=>rfl,by exact Nat.le_succ_of_le q1,by exact Nat.le_succ_of_le q2,by exact Nat.le_succ_of_le q3,by exact Nat.le_succ_of_le q4,by exact Nat.succ_le_succ q5,aa.ru hgo hcx hs⟩,omg⟩ (fF (bb ln)) (sub (an .nil) aj)
  ·refine(xm)<|(wa)<|(Q1)<|(SB)<|(uB)<|(Qp) ?_
   refine rO TT 19 rfl ?_
   rw[←aa.eU (aa.mW hgo hcx hs)]
   exact af (aw rfl) ⟨rfl,rfl⟩ (sub (an .nil) aj)
  ·refine(Q5) ?_
   refine(JD) ?_
   refine(Q1) ?_
   refine(TL) ?_
   refine(Q1) ?_
   refine(wa) ?_
   refine(Q1) ?_
   refine(SB) ?_
   refine(uB) ?_
   refine(Qo) ?_
   refine(Q9) ?_
   refine(Q0) ?_
   refine(Qp) ?_
   refine(QO) ?_
   rw[←aa.eU (aa.mW hgo hcx hs)]
   exact af (aw rfl) ⟨rfl,rfl⟩ (sub (an .nil) aj)
  ·refine(Q5) ?_
   refine(JD) ?_
   refine(Q1) ?_
   refine(TL) ?_
   refine(Q1) ?_
   refine(wa) ?_
   refine(Q1) ?_
   refine(SB) ?_
   refine(uB) ?_
   refine(Qo) ?_
   refine(Q9) ?_
   refine(Q0) ?_
   refine(Qo) ?_
   refine(ES) ?_
   exact j3 (i+1) _ _ ⟨⟨omg,fun _=>rfl,by exact Nat.le_succ_of_le q1,by exact Nat.le_succ_of_le q2,by exact Nat.succ_le_succ q3,by exact Nat.le_succ_of_le q4,by exact Nat.le_succ_of_le q5,aa.ru hgo hcx hs⟩,omg⟩ (fF (bb ln)) (sub (an .nil) aj)
  ·refine(xm)<|(wa)<|(Q1)<|(H3)<|(Q1)<|(ZO)<|(uB)<|(Qp)<|(QC) ?_
   rw[←aa.eU (aa.mW hgo hcx hs)]
   exact af (aw rfl) ⟨rfl,rfl⟩ (sub (an .nil) aj)
  ·refine(xm)<|(wa)<|(Q1)<|(H3)<|(Q1)<|(ZO)<|(uB)<|(Qo)<|(Co) ?_
   exact j3 (i+1) _ _ ⟨⟨omg,fun _=>rfl,by exact Nat.le_succ_of_le q1,by exact Nat.le_succ_of_le q2,by exact Nat.le_succ_of_le q3,by exact Nat.succ_le_succ q4,by exact Nat.le_succ_of_le q5,aa.ru hgo hcx hs⟩,omg⟩ (fF (bb ln)) (sub (an .nil) aj)
  ·refine(xm)<|(wa)<|(Q1)<|(H3)<|(Q1)<|(TE)<|(Qe)<|(ox)<|(qu)<|(uA) ?_
   refine oC (kz (aP.g es (i:Int)).k hxk omg false (decide_eq_false a5).symm) V.BG rfl .nil rfl<|rO TT 24 rfl ?_
   rw[←aa.eU (aa.mW hgo hcx hs)]
   exact af (aw rfl) ⟨rfl,rfl⟩ (sub (an .nil) aj)
  ·refine(xm)<|(wa)<|(Q1)<|(H3)<|(Q1)<|(TE)<|(Qe)<|(ox)<|(qu)<|(uA)<|(ZR)<|(Qu)<|(ox)<|(Q0)<|(qu)<|(Q0)<|(uA)<|(Q0) ?_
   refine oC (HG (aP.g es (i:Int)).k hxk omg true (decide_eq_true (⟨a5,a6⟩)).symm) V.ZJ rfl .nil rfl ?_
   refine(QO) ?_
   rw[←aa.eU (aa.mW hgo hcx hs)]
   exact af (aw rfl) ⟨rfl,rfl⟩ (sub (an .nil) aj)
  ·refine(xm)<|(wa)<|(Q1)<|(H3)<|(Q1)<|(TE)<|(Qe)<|(ox)<|(qu)<|(uA)<|(ZR)<|(Qu)<|(ox)<|(Q0)<|(qu)<|(Q0)<|(uA)<|(Q0) ?_
   refine oC (HG (aP.g es (i:Int)).k hxk omg false (decide_eq_false (fun hh=>a6 hh.2)).symm) V.ZJ rfl .nil rfl ?_
   refine(ES) ?_
   exact j3 (i+1) _ _ ⟨⟨omg,fun _=>rfl,by exact Nat.le_succ_of_le q1,by exact Nat.le_succ_of_le q2,by exact Nat.le_succ_of_le q3,by exact Nat.le_succ_of_le q4,by exact Nat.le_succ_of_le q5,aa.ru hgo hcx hs⟩,omg⟩ (fF (bb ln)) (sub (an .nil) aj)
 ·refine(Qb) ?_
  rcases(aa.oe6 s) with⟨a0,hs⟩|⟨a0,a1,hs⟩|⟨a0,a1,a2,hs⟩|⟨a0,a1,a2,a3,hs⟩|⟨a0,a1,a2,a3,a4,hs⟩|⟨a0,a1,a2,a3,a4,hs⟩
  ·refine(Q5) ?_
   have hfin:=aa.oq hgo (by rw[List.length_map];omega)
   refine(Q5)<|(yZ) ?_
   refine rO TT 26 rfl ?_
   rw[←aa.eU (hfin.trans hs)]
   exact af (aw rfl) ⟨rfl,rfl⟩ (sub (an .nil) aj)
  ·refine(Q5) ?_
   have hfin:=aa.oq hgo (by rw[List.length_map];omega)
   refine(Q5)<|(QM)<|(Qm)<|(yZ) ?_
   refine rO TT 23 rfl ?_
   rw[←aa.eU (hfin.trans hs)]
   exact af (aw rfl) ⟨rfl,rfl⟩ (sub (an .nil) aj)
  ·refine(Q5) ?_
   have hfin:=aa.oq hgo (by rw[List.length_map];omega)
   refine(Q5)<|(QM)<|(Qm)<|(QM)<|(Qk)<|(QG) ?_
   refine rO TT 19 rfl ?_
   rw[←aa.eU (hfin.trans hs)]
   exact af (aw rfl) ⟨rfl,rfl⟩ (sub (an .nil) aj)
  ·refine(Q5) ?_
   have hfin:=aa.oq hgo (by rw[List.length_map];omega)
   refine(Q5) ?_
   refine(QM) ?_
   refine(Q9) ?_
   refine(Q0) ?_
   refine(QM) ?_
   refine(Qc) ?_
   refine(Q0) ?_
   refine(QL) ?_
   refine(Qc) ?_
   refine(Q0) ?_
   refine(Qp) ?_
   refine(QC) ?_
   rw[←aa.eU (hfin.trans hs)]
   exact af (aw rfl) ⟨rfl,rfl⟩ (sub (an .nil) aj)
  ·refine(Q5) ?_
   have hfin:=aa.oq hgo (by rw[List.length_map];omega)
   refine(Q5) ?_
   refine(QM) ?_
   refine(Q9) ?_
   refine(Q0) ?_
   refine(QM) ?_
   refine(Qc) ?_
   refine(Q0) ?_
   refine(QL) ?_
   refine(Qc) ?_
   refine(Q0) ?_
   refine(Qo) ?_
   refine(Qc) ?_
   refine(Q0) ?_
   refine(Qp) ?_
   refine(Qj) ?_
   rw[←aa.eU (hfin.trans hs)]
   exact af (aw rfl) ⟨rfl,rfl⟩ (sub (an .nil) aj)
  ·refine(Q5) ?_
   have hfin:=aa.oq hgo (by rw[List.length_map];omega)
   refine(Q5) ?_
   refine(QM) ?_
   refine(Q9) ?_
   refine(Q0) ?_
   refine(QM) ?_
   refine(Qc) ?_
   refine(Q0) ?_
   refine(QL) ?_
   refine(Qc) ?_
   refine(Q0) ?_
   refine(Qo) ?_
   refine(Qc) ?_
   refine(Q0) ?_
   refine(Qo) ?_
   refine(Qy) ?_
   rw[←aa.lh (hfin.trans hs)]
   exact af (aw rfl) ⟨rfl,rfl⟩ (sub (an .nil) aj)
end Go.Proofs.YtmaiakpjgomnpaaGreat
namespace Go.Proofs.YtmaiakpjgomnpaaGreat
open Go.Sl
def V.a145:gR Tryz.prog 145=some 6:=by kernel_rfl
def V.Sp:gR Tryz.prog 181=some 42:=by kernel_rfl
def V.ff:gR Tryz.prog 26=some 3:=by kernel_rfl
def V.M7:jP Tryz.prog 181=some (7,145,6):=by kernel_rfl
def V.tb:az Tryz.prog 115=true:=by kernel_rfl
def V.SW:az Tryz.prog 144=true:=by kernel_rfl
def V.zZ:az Tryz.prog 58=true:=by kernel_rfl
def V.r4:az Tryz.prog 60=true:=by kernel_rfl
def V.SD:bo Tryz.prog 145 4=some 4:=by kernel_rfl
def V.U1:bo Tryz.prog 145 5=some 5:=by kernel_rfl
def V.E4:bo Tryz.prog 26 0=some 0:=by kernel_rfl
def V.w3:bo Tryz.prog 26 1=some 1:=by kernel_rfl
def V.wU:bo Tryz.prog 26 2=some 2:=by kernel_rfl
def V.XL:eQ Tryz.prog 145=some [(0,1),(1,1),(2,1),(3,1),(4,1),(5,1)]:=by kernel_rfl
def V.x7:eQ Tryz.prog 26=some [(0,1),(1,1),(2,1)]:=by kernel_rfl
def V.sI:eQ Tryz.prog 67=some [(0,1),(1,1),(2,1),(3,1),(4,1),(5,1)]:=by kernel_rfl
def V.uO:da Tryz.prog 24=true:=by kernel_rfl
def V.vL:sliceB Tryz.prog 140=some (145,6,48):=by kernel_rfl
def V.iJ:sliceB Tryz.prog 24=some (62,1,2):=by kernel_rfl
def V.qU:sliceB Tryz.prog 64=some (67,6,48):=by kernel_rfl
def V.z145:cW Tryz.prog 145=some ([.int .i64 0,.int .i64 0,.int .i64 0,.int .i64 0,.int .i64 0,.int .i64 0]):=by kernel_rfl
def V.T8:cW Tryz.prog 181=some (List.replicate 42 (.int .i64 0)):=by kernel_rfl
def V.zd:cW Tryz.prog 26=some ([.int .i64 0,.int .i64 0,.slice none 0 0]):=by kernel_rfl
def V.Hr:cW Tryz.prog 62=some ([.int .u16 0]):=by kernel_rfl
def V.pn:cW Tryz.prog 67=some ([.int .i64 0,.int .i64 0,.int .i64 0,.int .i64 0,.int .i64 0,.int .i64 0]):=by kernel_rfl
end Go.Proofs.YtmaiakpjgomnpaaGreat
namespace Go.Proofs.YtmaiakpjgomnpaaGreat
open Go.Sl 
attribute [local irreducible] aa.bD aa.many aa.eC aa.eJ aa.vM aa.tq aa.jb aa.fp
section
variable {C:Ctx} {E:Env} {L:List ad}
def XE{t T n b T':Nat}{cs:List Value}(hs:gR C.P T=some n)(h1:E.get t=some (.pointer (soz b)))(hm:ai b T' cs∈L)(hn:cs.length=n):k8 C #[.cell t T] E L (.agg cs.toArray):=fun fn a w hr ha hi=>by
 obtain⟨g1,g2⟩:=mS hs w
 obtain⟨F,hF⟩:=hi.mem hm
 have:=run_loadCells_list (P:=C.P) w ⟨b,0,none⟩ cs (fun j v hj=>by rw[Addr.gl,hF.jq,←hj];simp)
 rw[hn] at this
 simp[results,hr,ha.get _ _ h1,asAddr,loadVar,g1,g2,this]
end

def oM(w h:Int):aA Tryz.prog 58 [I6 w,I6 h] [] (aF fun v G=>v=I6 (aa.bD w h)∧G=[]):=by
 refine ao [(0,_),(1,_)] Tryz.func58 rfl Tryz.ntmps58 rfl rfl ?_
 intro w0 F
 refine rT TT 7 rfl ?_
 rcases(aa.zP w h) with⟨a0,hs⟩|⟨a0,a1,hs⟩|⟨a0,a1,a2,hs⟩|⟨a0,a1,a2,a3,hs⟩|⟨a0,a1,a2,a3,a4,hs⟩|⟨a0,a1,a2,a3,a4,hs⟩
 ·refine(Q3)<|(QG)<|(QO) ?_
  exact af (aw rfl) ⟨congrArg (Value.int .i64) hs.symm,rfl⟩ (sub .nil aj)
 ·refine(Q3) ?_
  refine(QL) ?_
  refine(Q9) ?_
  refine(Q0) ?_
  refine(QG) ?_
  refine(Qq) ?_
  exact af (aw rfl) ⟨congrArg (Value.int .i64) hs.symm,rfl⟩ (sub .nil aj)
 ·refine(Q3) ?_
  refine(QL) ?_
  refine(Q9) ?_
  refine(Q0) ?_
  refine(QL) ?_
  refine(Qe) ?_
  refine(Qp) ?_
  refine rO TT 22 rfl ?_
  exact af (aw rfl) ⟨congrArg (Value.int .i64) hs.symm,rfl⟩ (sub .nil aj)
 ·refine(Q3) ?_
  refine(QL) ?_
  refine(Q9) ?_
  refine(Q0) ?_
  refine(QL) ?_
  refine(Qe) ?_
  refine(Qo) ?_
  refine(Q9) ?_
  refine(Q0) ?_
  refine(Qp) ?_
  refine rO TT 19 rfl ?_
  exact af (aw rfl) ⟨congrArg (Value.int .i64) hs.symm,rfl⟩ (sub .nil aj)
 ·refine rC TT 3 rfl ?_
  refine oV (bC (dD rfl rfl) omg) ?_
  refine rO TT 2 rfl ?_
  refine bB rfl ?_
  refine oV (bC (dD rfl rfl) omg) ?_
  refine rO TT 8 rfl ?_
  refine oV (bC (cR rfl rfl) omg) ?_
  refine rO TT 2 rfl ?_
  refine bB rfl ?_
  refine oV (bC (cR rfl rfl) omg) ?_
  refine rO TT 4 rfl ?_
  refine bB rfl ?_
  refine oV (kW (r:=16384/h) rfl rfl omg (aa.sS omg)) ?_
  refine bB rfl ?_
  refine oV (bQ (cR rfl rfl) omg) ?_
  refine rO TT 13 rfl ?_
  exact af (aw rfl) ⟨congrArg (Value.int .i64) hs.symm,rfl⟩ (sub .nil aj)
 ·refine rC TT 3 rfl ?_
  refine oV (bC (dD rfl rfl) omg) ?_
  refine rO TT 2 rfl ?_
  refine bB rfl ?_
  refine oV (bC (dD rfl rfl) omg) ?_
  refine rO TT 8 rfl ?_
  refine oV (bC (cR rfl rfl) omg) ?_
  refine rO TT 2 rfl ?_
  refine bB rfl ?_
  refine oV (bC (cR rfl rfl) omg) ?_
  refine rO TT 4 rfl ?_
  refine bB rfl ?_
  refine oV (kW (r:=16384/h) rfl rfl omg (aa.sS omg)) ?_
  refine bB rfl ?_
  refine oV (bC (cR rfl rfl) omg) ?_
  refine rO TT 14 rfl ?_
  exact af (aw rfl) ⟨congrArg (Value.int .i64) hs.symm,rfl⟩ (sub .nil aj)

def mh(w h:Int):aA Tryz.prog 60 [I6 w,I6 h] [] (aF fun v G=>v=I6 (aa.bD w h)∧G=[]):=by
 refine ao [(0,_),(1,_)] Tryz.func60 rfl Tryz.ntmps60 rfl rfl ?_
 intro w0 F
 refine rT TT 7 rfl ?_
 rcases(aa.zP w h) with⟨a0,hs⟩|⟨a0,a1,hs⟩|⟨a0,a1,a2,hs⟩|⟨a0,a1,a2,a3,hs⟩|⟨a0,a1,a2,a3,a4,hs⟩|⟨a0,a1,a2,a3,a4,hs⟩
 ·refine(Q3)<|(QG)<|(QO) ?_
  exact af (aw rfl) ⟨congrArg (Value.int .i64) hs.symm,rfl⟩ (sub .nil aj)
 ·refine(Q3) ?_
  refine(QL) ?_
  refine(Q9) ?_
  refine(Q0) ?_
  refine(QG) ?_
  refine(Qq) ?_
  exact af (aw rfl) ⟨congrArg (Value.int .i64) hs.symm,rfl⟩ (sub .nil aj)
 ·refine(Q3) ?_
  refine(QL) ?_
  refine(Q9) ?_
  refine(Q0) ?_
  refine(QL) ?_
  refine(Qe) ?_
  refine(Qp) ?_
  refine rO TT 22 rfl ?_
  exact af (aw rfl) ⟨congrArg (Value.int .i64) hs.symm,rfl⟩ (sub .nil aj)
 ·refine(Q3) ?_
  refine(QL) ?_
  refine(Q9) ?_
  refine(Q0) ?_
  refine(QL) ?_
  refine(Qe) ?_
  refine(Qo) ?_
  refine(Q9) ?_
  refine(Q0) ?_
  refine(Qp) ?_
  refine rO TT 19 rfl ?_
  exact af (aw rfl) ⟨congrArg (Value.int .i64) hs.symm,rfl⟩ (sub .nil aj)
 ·refine rC TT 3 rfl ?_
  refine oV (bC (dD rfl rfl) omg) ?_
  refine rO TT 2 rfl ?_
  refine bB rfl ?_
  refine oV (bC (dD rfl rfl) omg) ?_
  refine rO TT 8 rfl ?_
  refine oV (bC (cR rfl rfl) omg) ?_
  refine rO TT 2 rfl ?_
  refine bB rfl ?_
  refine oV (bC (cR rfl rfl) omg) ?_
  refine rO TT 4 rfl ?_
  refine bB rfl ?_
  refine oV (kW (r:=16384/h) rfl rfl omg (aa.sS omg)) ?_
  refine bB rfl ?_
  refine oV (bQ (cR rfl rfl) omg) ?_
  refine rO TT 13 rfl ?_
  exact af (aw rfl) ⟨congrArg (Value.int .i64) hs.symm,rfl⟩ (sub .nil aj)
 ·refine rC TT 3 rfl ?_
  refine oV (bC (dD rfl rfl) omg) ?_
  refine rO TT 2 rfl ?_
  refine bB rfl ?_
  refine oV (bC (dD rfl rfl) omg) ?_
  refine rO TT 8 rfl ?_
  refine oV (bC (cR rfl rfl) omg) ?_
  refine rO TT 2 rfl ?_
  refine bB rfl ?_
  refine oV (bC (cR rfl rfl) omg) ?_
  refine rO TT 4 rfl ?_
  refine bB rfl ?_
  refine oV (kW (r:=16384/h) rfl rfl omg (aa.sS omg)) ?_
  refine bB rfl ?_
  refine oV (bC (cR rfl rfl) omg) ?_
  refine rO TT 14 rfl ?_
  exact af (aw rfl) ⟨congrArg (Value.int .i64) hs.symm,rfl⟩ (sub .nil aj)

def Yq(w h:Int):aA Tryz.prog 85 [I6 w,I6 h] [] (aF fun v G=>(aa.bD w h≠0∧v=.tuple #[.agg #[I6 0,I6 0,.slice none 0 0],I6 (aa.bD w h)]∧G=[])∨(aa.bD w h=0∧∃b,v=.tuple #[.agg #[I6 w,I6 h,.slice (soz b) ((4*w*h).toNat) ((4*w*h).toNat)],I6 0]∧G=[Row (aK 62 .u16) (soz b) ((4*w*h).toNat) ((4*w*h).toNat) (List.replicate (4*w*h).toNat (aK 62 .u16).d)])):=by
 refine ao [(0,_),(1,_)] Tryz.func85 rfl Tryz.ntmps85 rfl rfl ?_
 intro w0 F
 refine(QK)<|(ti) ?_
 intro b4
 refine rO TT 8 rfl ?_
 refine oC (oM w h) V.zZ rfl .nil rfl ?_
 refine rO TT 3 rfl ?_
 rcases(Classical.em (aa.bD w h=0)) with hs|hs
 ·refine(Q3)<|(QM)<|(Q1) ?_
  have h4:=aa.oX hs
  have h1:=aa.jj hs
  refine mf TT 6 rfl omg ?_
  refine oV (cn (v:=I6 ((4*w*h).toNat:Int)) (fR rfl rfl wI) (by congr 1;omega)) ?_
  refine mL ((4*w*h).toNat) ((4*w*h).toNat) (aK 62 .u16) rfl rfl V.iJ V.Hr rfl rfl rfl rfl omg omg rfl rfl ?_
  intro nU
  refine oV (cE V.x7 V.zd rfl (cs:=[I6 w,I6 h,.slice (soz nU) ((4*w*h).toNat) ((4*w*h).toNat)]) rfl) ?_
  refine cC (aZ V.ff rfl rfl (us:=[_,_,_]) rfl rfl (by exact qn) (by exact Nat.le_of_ble_eq_true rfl) rfl) ?_
  refine rO TT 4 rfl ?_
  exact af (cH V.ff rfl cX rfl rfl) (.inr ⟨hs,_,rfl,rfl⟩) (sub (an .nil) bg)
 ·refine rC TT 3 rfl ?_
  refine oV (bQ (bO rfl rfl) omg) ?_
  refine rO TT 5 rfl ?_
  refine oV (cE V.x7 V.zd rfl (cs:=[I6 0,I6 0,.slice none 0 0]) rfl) ?_
  refine oV (jh rfl) ?_
  refine cC (aZ V.ff rfl rfl (us:=[_,_,_]) rfl rfl (by exact ft) (by exact Nat.le_of_ble_eq_true rfl) rfl) ?_
  refine rO TT 5 rfl ?_
  exact af (cH V.ff rfl ay rfl rfl) (.inl ⟨hs,rfl,rfl⟩) (sub .nil bg)

def Ym(w h:Int):aA Tryz.prog 35 [I6 w,I6 h] [] (aF fun v G=>(aa.bD w h≠0∧v=.tuple #[.agg #[I6 0,I6 0,.slice none 0 0],I6 (aa.bD w h)]∧G=[])∨(aa.bD w h=0∧∃b,v=.tuple #[.agg #[I6 w,I6 h,.slice (soz b) ((4*w*h).toNat) ((4*w*h).toNat)],I6 0]∧G=[Row (aK 62 .u16) (soz b) ((4*w*h).toNat) ((4*w*h).toNat) (List.replicate (4*w*h).toNat (aK 62 .u16).d)])):=by
 refine ao [(0,_),(1,_)] Tryz.func35 rfl Tryz.ntmps35 rfl rfl ?_
 intro w0 F
 refine(QK)<|(ti) ?_
 intro b4
 refine rO TT 7 rfl ?_
 refine oC (mh w h) V.r4 rfl .nil rfl ?_
 refine rO TT 3 rfl ?_
 rcases(Classical.em (aa.bD w h=0)) with hs|hs
 ·refine(Q4)<|(QM)<|(Q1) ?_
  have h4:=aa.oX hs
  have h1:=aa.jj hs
  refine mf TT 6 rfl omg ?_
  refine oV (cn (v:=I6 ((4*w*h).toNat:Int)) (fR rfl rfl wI) (by congr 1;omega)) ?_
  refine mL ((4*w*h).toNat) ((4*w*h).toNat) (aK 62 .u16) rfl rfl V.iJ V.Hr rfl rfl rfl rfl omg omg rfl rfl ?_
  intro nU
  refine oV (cE V.x7 V.zd rfl (cs:=[I6 w,I6 h,.slice (soz nU) ((4*w*h).toNat) ((4*w*h).toNat)]) rfl) ?_
  refine cC (aZ V.ff rfl rfl (us:=[_,_,_]) rfl rfl (by exact qn) (by exact Nat.le_of_ble_eq_true rfl) rfl) ?_
  refine rO TT 4 rfl ?_
  exact af (cH V.ff rfl cX rfl rfl) (.inr ⟨hs,_,rfl,rfl⟩) (sub (an .nil) bg)
 ·refine(Q4)<|(yZ)<|(Q6)<|(Q84)<|(Q8)<|(Dz)<|(Q6) ?_
  exact af (cH V.ff rfl ay rfl rfl) (.inl ⟨hs,rfl,rfl⟩) (sub .nil bg)

def XJ(w h:Int)(q:Option Addr)(n c:Nat)(t:Bool)(ht:t=decide (aa.bD w h=0∧(n:Int)=4*w*h)):aA Tryz.prog 67 [.agg #[I6 w,I6 h,.slice q n c]] [] (aF fun v G=>v=.bool t∧G=[]):=by
 refine ao [(0,_)] Tryz.func67 rfl Tryz.ntmps67 rfl rfl ?_
 intro w0 F
 refine(uE) ?_
 intro b1
 refine(Qc) ?_
 rcases(Classical.em (aa.bD w h=0)) with hs|hs
 ·refine rC TT 3 rfl ?_
  refine oV (aB V.s3 rfl ay rfl) ?_
  refine oV (bP V.w3 rfl) ?_
  refine oV (aB V.s3 rfl ay rfl) ?_
  refine oC (oM w h) V.zZ rfl .nil rfl ?_
  refine oV (bQ (bG rfl rfl) omg) ?_
  refine rO TT 2 rfl ?_
  refine bB rfl ?_
  refine oV (aB V.uO rfl ay rfl) ?_
  refine rO TT 2 rfl ?_
  refine bB rfl ?_
  refine oV (aB V.s3 rfl ay rfl) ?_
  have h4:=aa.oX hs
  have h1:=aa.jj hs
  refine(o7)<|(Q0)<|(Ql)<|(Da) ?_
  (rw[show decide ((n:Int)=4*w*h)=t from by rw[ht];congr 1;simp[hs]];exact af (G:=[]) (aw rfl) ⟨rfl,rfl⟩ (sub .nil bg))
 ·refine rC TT 3 rfl ?_
  refine oV (aB V.s3 rfl ay rfl) ?_
  refine oV (bP V.w3 rfl) ?_
  refine oV (aB V.s3 rfl ay rfl) ?_
  refine oC (oM w h) V.zZ rfl .nil rfl ?_
  refine oV (bC (bG rfl rfl) omg) ?_
  refine rO TT 16 rfl ?_
  (obtain rfl:t=false:=by rw[ht];exact decide_eq_false (fun hh=>hs hh.1)
   exact af (aw rfl) ⟨rfl,rfl⟩ (sub .nil bg))

def wD(w h:Int)(q:Option Addr)(n c:Nat)(t:Bool)(ht:t=decide (aa.bD w h=0∧(n:Int)=4*w*h)):aA Tryz.prog 21 [.agg #[I6 w,I6 h,.slice q n c]] [] (aF fun v G=>v=.bool t∧G=[]):=by
 refine ao [(0,_)] Tryz.func21 rfl Tryz.ntmps21 rfl rfl ?_
 intro w0 F
 refine(uE) ?_
 intro b1
 refine(Qc) ?_
 rcases(Classical.em (aa.bD w h=0)) with hs|hs
 ·refine rC TT 3 rfl ?_
  refine oV (aB V.s3 rfl ay rfl) ?_
  refine oV (bP V.w3 rfl) ?_
  refine oV (aB V.s3 rfl ay rfl) ?_
  refine oC (mh w h) V.r4 rfl .nil rfl ?_
  refine oV (bQ (bG rfl rfl) omg) ?_
  refine rO TT 2 rfl ?_
  refine bB rfl ?_
  refine oV (aB V.uO rfl ay rfl) ?_
  refine rO TT 2 rfl ?_
  refine bB rfl ?_
  refine oV (aB V.s3 rfl ay rfl) ?_
  have h4:=aa.oX hs
  have h1:=aa.jj hs
  refine(o7)<|(Q0)<|(Ql)<|(Da) ?_
  (rw[show decide ((n:Int)=4*w*h)=t from by rw[ht];congr 1;simp[hs]];exact af (G:=[]) (aw rfl) ⟨rfl,rfl⟩ (sub .nil bg))
 ·refine rC TT 3 rfl ?_
  refine oV (aB V.s3 rfl ay rfl) ?_
  refine oV (bP V.w3 rfl) ?_
  refine oV (aB V.s3 rfl ay rfl) ?_
  refine oC (mh w h) V.r4 rfl .nil rfl ?_
  refine oV (bC (bG rfl rfl) omg) ?_
  refine rO TT 16 rfl ?_
  (obtain rfl:t=false:=by rw[ht];exact decide_eq_false (fun hh=>hs hh.1)
   exact af (aw rfl) ⟨rfl,rfl⟩ (sub .nil bg))
abbrev PK:Ec aa.Ps:=⟨145,6,fun p=>[I6 p.x,I6 p.y,I6 p.dx,I6 p.dy,I6 p.w,I6 p.h],⟨0,0,0,0,0,0⟩,fun _=>rfl,fun _=>rfl⟩
abbrev gY:Ec aa.Ps:=⟨67,6,fun p=>[I6 p.x,I6 p.y,I6 p.dx,I6 p.dy,I6 p.w,I6 p.h],⟨0,0,0,0,0,0⟩,fun _=>rfl,fun _=>rfl⟩

def Bb(n:Int)(t:Bool)(ht:t=decide (0≤n∧n≤256)):aA Tryz.prog 116 [I6 n] [] (aF fun v G=>v=.bool t∧G=[]):=by
 refine ao [(0,_)] Tryz.func116 rfl Tryz.ntmps116 rfl rfl ?_
 intro w0 F
 refine(QV) ?_
 rcases(Classical.em (0≤n)) with h0|h0
 ·refine(Q3)<|(nf)<|(Qe) ?_
  (rw[show decide (n≤256)=t from by rw[ht];congr 1;simp[h0]];exact af (G:=[]) (aw rfl) ⟨rfl,rfl⟩ (sub .nil aj))
 ·refine(Q3)<|(qa)<|(Qe) ?_
  (obtain rfl:t=false:=by rw[ht];exact decide_eq_false (fun hh=>h0 hh.1)
   exact af (aw rfl) ⟨rfl,rfl⟩ (sub .nil aj))

def HD(frm step en:Int)(hs:step=1∨step=2∨step=4∨step=8)(hf:0≤frm∧frm≤8)(he:0≤en∧en≤256):aA Tryz.prog 144 [I6 frm,I6 step,I6 en] [] (aF fun v G=>v=I6 (aa.many frm step en)∧G=[]):=by
 refine ao [(0,_),(1,_),(2,_)] Tryz.func144 rfl Tryz.ntmps144 rfl rfl ?_
 intro w0 F
 refine(QV) ?_
 rcases(Classical.em (en≤frm)) with h0|h0
 ·refine(Qb)<|(nf)<|(Qg) ?_
  rw[←aa.YS hs frm h0]
  exact af (aw rfl) ⟨rfl,rfl⟩ (sub .nil aj)
 ·refine(Qb)<|(qa)<|(uB) ?_
  refine oV (kW (r:=(en-frm+step-1)/step) rfl rfl omg (so (m:=en-frm+step-1) (n:=step) omg omg omg))<|(Q7) ?_
  rw[←aa.Nl h0]
  exact af (aw rfl) ⟨rfl,rfl⟩ (sub .nil aj)

def tF(x y dx dy w h:Int)(hx:0≤x∧x≤8)(hy:0≤y∧y≤8)(hdx:dx=1∨dx=2∨dx=4∨dx=8)(hdy:dy=1∨dy=2∨dy=4∨dy=8)(hw:0≤w∧w≤256)(hh:0≤h∧h≤256):aA Tryz.prog 115 [I6 x,I6 y,I6 dx,I6 dy,I6 w,I6 h] [] (aF fun v G=>v=.agg #[I6 x,I6 y,I6 dx,I6 dy,I6 (aa.many x dx w),I6 (aa.many y dy h)]∧G=[]):=by
 refine ao [(0,_),(1,_),(2,_),(3,_),(4,_),(5,_)] Tryz.func115 rfl Tryz.ntmps115 rfl rfl ?_
 intro w0 F
 refine(QK) ?_
 refine de V.z145 rfl ?_
 intro b12
 refine rO TT 11 rfl ?_
 refine oC (HD x dx w hdx hx hw) V.SW rfl .nil rfl ?_
 refine rO TT 3 rfl ?_
 refine oC (HD y dy h hdy hy hh) V.SW rfl .nil rfl ?_
 refine oV (cE V.XL V.z145 rfl (cs:=[I6 x,I6 y,I6 dx,I6 dy,I6 (aa.many x dx w),I6 (aa.many y dy h)]) (by kernel_rfl)) ?_
 refine cC (aZ V.a145 rfl rfl (us:=[_,_,_,_,_,_]) rfl rfl (by exact ft) (by exact Nat.le_of_ble_eq_true rfl) rfl) ?_
 refine rO TT 3 rfl ?_
 exact af (XE V.a145 rfl ay rfl) ⟨rfl,rfl⟩ (sub .nil bg)

def Rj(w h:Int)(hs:aa.bD w h=0):aA Tryz.prog 81 [I6 w,I6 h] [] (aF fun v G=>∃p c,v=.slice p (aa.whole w h).length c∧G=[Row PK p (aa.whole w h).length c (aa.whole w h)]):=by
 refine ao [(0,_),(1,_)] Tryz.func81 rfl Tryz.ntmps81 rfl rfl ?_
 intro w0 F
 have hsd:=aa.jj hs
 have hw:0≤w∧w≤256:=omg
 have hh:0≤h∧h≤256:=omg
 refine rT TT 10 rfl ?_
 refine oC (oM w h) V.zZ rfl .nil rfl ?_
 rw[hs]
 refine(QM)<|(Qn) ?_
 refine oC (tF 0 0 1 1 w h dec dec dec dec hw hh) V.tb rfl .nil rfl ?_
 rw[aa.many1 hsd.1,aa.many1 hsd.2.2.1]
 refine cg (PK) [⟨0,0,1,1,w,h⟩] V.vL V.z145 rfl rfl rfl (by kernel_rfl) rfl rfl ?_
 intro b12
 refine rO TT 4 rfl ?_
 exact af (aw rfl) ⟨_,_,rfl,rfl⟩ (sub (an .nil) aj)

def OP(w h:Int)(hs:aa.bD w h=0):aA Tryz.prog 47 [I6 w,I6 h] [] (aF fun v G=>∃p c,v=.slice p (aa.whole w h).length c∧G=[Row gY p (aa.whole w h).length c (aa.whole w h)]):=by
 refine ao [(0,_),(1,_)] Tryz.func47 rfl Tryz.ntmps47 rfl rfl ?_
 intro w0 F
 refine rT TT 10 rfl ?_
 refine oC (mh w h) V.r4 rfl .nil rfl ?_
 rw[hs]
 refine(QM)<|(Qn) ?_
 refine oV (cE V.sI V.pn rfl (cs:=[I6 0,I6 0,I6 1,I6 1,I6 w,I6 h]) (by kernel_rfl))<|cg (gY) [⟨0,0,1,1,w,h⟩] V.qU V.pn rfl rfl rfl (by kernel_rfl) rfl rfl ?_
 intro b12
 refine rO TT 4 rfl ?_
 exact af (aw rfl) ⟨_,_,rfl,rfl⟩ (sub (an .nil) aj)

def KM(w h:Int)(hs:aa.bD w h=0):aA Tryz.prog 82 [I6 w,I6 h] [] (aF fun v G=>∃p c,v=.slice p (aa.fq w h).length c∧G=[Row PK p (aa.fq w h).length c (aa.fq w h)]):=by
 refine ao [(0,_),(1,_)] Tryz.func82 rfl Tryz.ntmps82 rfl rfl ?_
 intro w0 F
 have hsd:=aa.jj hs
 have hw:0≤w∧w≤256:=omg
 have hh:0≤h∧h≤256:=omg
 obtain⟨Z,hZ⟩:∃Z,Z=(aa.jb w h).flatMap PK.e:=⟨_,rfl⟩
 have hZl:Z.length=42:=by rw[hZ];unfold aa.jb;rfl
 have hZ1:Z.all Value.oneCell'=true:=by rw[hZ];exact re PK _
 refine rT TT 10 rfl ?_
 refine oC (oM w h) V.zZ rfl .nil rfl ?_
 rw[hs]
 refine(QM)<|(Qn) ?_
 refine oC (tF 0 0 8 8 w h dec dec dec dec hw hh) V.tb rfl .nil rfl<|(Q9) ?_
 refine oC (tF 4 0 8 8 w h dec dec dec dec hw hh) V.tb rfl .nil rfl<|(Q9) ?_
 refine oC (tF 0 4 4 8 w h dec dec dec dec hw hh) V.tb rfl .nil rfl<|(Q9) ?_
 refine oC (tF 2 0 4 4 w h dec dec dec dec hw hh) V.tb rfl .nil rfl<|(Q9) ?_
 refine oC (tF 0 2 2 4 w h dec dec dec dec hw hh) V.tb rfl .nil rfl<|(Q9) ?_
 refine oC (tF 1 0 2 2 w h dec dec dec dec hw hh) V.tb rfl .nil rfl<|(Q9) ?_
 refine oC (tF 0 1 1 2 w h dec dec dec dec hw hh) V.tb rfl .nil rfl<|oV (gb V.M7 V.T8 rfl (cs:=Z) (by rw[hZ];kernel_rfl))<|de V.T8 rfl ?_
 intro b5
 refine cC (aZ V.Sp rfl rfl (us:=Z) (cs':=Z) hZ1 hZl (by exact ft) dec (by rw[List.take_zero,List.nil_append,List.drop_eq_nil_of_le dec,List.append_nil]))<|(Qg) ?_
 refine oV (bU V.Sp rfl ay (vs:=Z) hZl (by rw[List.drop_zero,←hZl,List.take_length]))<|(Q7) ?_
 rw[show((6:Nat),Value.slice none 0 0)=(6,.slice none (aa.fp w h 0).length 0) from by rw[aa.wX];rfl]
 refine gL (Row PK none (aa.fp w h 0).length 0 (aa.fp w h 0)) (by rw[aa.wX];exact Row.nil _ _ _) ?_
 refine dP (fun(i:Nat) (p6:Option Addr) (c6:Nat)=>[(6,.slice p6 (aa.fp w h i).length c6),(35,.agg Z.toArray),(36,I6 (i:Int))]) (fun(i:Nat) (p6:Option Addr) (c6:Nat)=>Row PK p6 (aa.fp w h i).length c6 (aa.fp w h i)::F) (fun(i:Nat) (p6:Option Addr) (c6:Nat)=>i≤7) (fun(i:Nat) (p6:Option Addr) (c6:Nat)=>7-i) (i3 (0) (none) (0) ?_ (eo ln) (sub (an .nil) bg)) ?_
 ·exact Nat.zero_le _
 intro i p6 c6
 rintro hi
 have hpl:=aa.AV w h i
 obtain⟨x,hx⟩:∃x,x=(PK.g (aa.jb w h) (i:Int)):=⟨_,rfl⟩
 have hx2:(aa.jb w h).getD i ⟨0,0,0,0,0,0⟩=x:=hx.symm
 refine(Qs) ?_
 refine av rfl (fun h37=>?_) (fun h37=>?_)
 ·refine(Qf) ?_
  refine oV (cn (v:=.agg #[I6 x.x,I6 x.y,I6 x.dx,I6 x.dy,I6 x.w,I6 x.h]) (P5 PK (aa.jb w h) i V.M7 V.a145 rfl hZ rfl rfl omg (by rw[aa.Kb];omega) rfl) (by rw[←hx]))<|de V.z145 rfl ?_
  intro b8
  refine(Ts)<|(Q9) ?_
  rcases(aa.G2 x) with⟨q1,q2⟩|⟨q1,q3,q2⟩|⟨q1,q3,q2⟩
  ·refine(wT)<|(Qo)<|(D4) ?_
   (rw[aa.xf (i:=i) omg hx2 q2];exact j3 (i+1) _ _ ⟨omg,omg⟩ (eo ln) (sub (.cons ar .nil) bg))
  ·refine(wT)<|(Qp)<|(Qm)<|(nX)<|(Qo)<|(zw) ?_
   (rw[aa.xf (i:=i) omg hx2 q2];exact j3 (i+1) _ _ ⟨omg,omg⟩ (eo ln) (sub (.cons ar .nil) bg))
  ·refine(wT)<|(Qp)<|(Qm)<|(nX)<|(Qp)<|(Q1)<|(Ta) ?_
   refine cg (PK) [x] V.vL V.z145 rfl rfl rfl (by kernel_rfl) rfl rfl ?_
   intro b49
   refine ei (c:=(PK)) V.vL V.z145 rfl rfl rfl rfl aL (own ay) omg rfl ?_
   intro p50 c50
   refine(QP) ?_
   (have hl2:(aa.fp w h i).length+1=(aa.fp w h (i+1)).length:=(congrArg List.length (aa.wj (i:=i) (p:=x) omg hx2 q2)).symm▸(by simp)
    rw[aa.wj (i:=i) (p:=x) omg hx2 q2,hl2]
    exact j3 (i+1) _ _ ⟨omg,omg⟩ (eo ln) (sub (an .nil) dC))
 ·refine(Qf) ?_
  obtain rfl:i=7:=omg
  rw[aa.JC]
  refine(Qf) ?_
  exact af (aw rfl) ⟨_,_,rfl,rfl⟩ (sub (an .nil) aj)
end Go.Proofs.YtmaiakpjgomnpaaGreat
namespace Go.Proofs.YtmaiakpjgomnpaaGreat
open Go.Sl
def V.Nb:gR Tryz.prog 67=some 6:=by kernel_rfl
def V.LJ:az Tryz.prog 116=true:=by kernel_rfl
def V.Tr:az Tryz.prog 117=true:=by kernel_rfl
def V.abV:az Tryz.prog 129=true:=by kernel_rfl
def V.pg:az Tryz.prog 19=true:=by kernel_rfl
def V.VG:az Tryz.prog 50=true:=by kernel_rfl
def V.ZF:az Tryz.prog 94=true:=by kernel_rfl
def V.Xo:bo Tryz.prog 67 0=some 0:=by kernel_rfl
def V.aeK:bo Tryz.prog 67 1=some 1:=by kernel_rfl
def V.aeA:bo Tryz.prog 67 2=some 2:=by kernel_rfl
def V.aeD:bo Tryz.prog 67 3=some 3:=by kernel_rfl
def V.Me:bo Tryz.prog 67 4=some 4:=by kernel_rfl
def V.F0:bo Tryz.prog 67 5=some 5:=by kernel_rfl
end Go.Proofs.YtmaiakpjgomnpaaGreat
namespace Go.Proofs.YtmaiakpjgomnpaaGreat
open Go.Sl 
attribute [local irreducible] aa.bD aa.many aa.eC aa.eJ aa.vM aa.tq aa.jb aa.fp aa.parts aa.deep aa.wY

def Og(w bits:Int)(hw:0≤w∧w≤256)(hb:0≤bits∧bits≤64):aA Tryz.prog 117 [I6 w,I6 bits] [] (aF fun v G=>v=I6 (aa.eC w bits)∧G=[]):=by
 refine ao [(0,_),(1,_)] Tryz.func117 rfl Tryz.ntmps117 rfl rfl ?_
 intro w0 F
 have hr:=aa.mR hw hb
 have he:(w*bits+7)/8=(aa.eC w bits):=by unfold aa.eC;rfl
 refine rT TT 9 rfl ?_
 refine oC (Bb w true (decide_eq_true hw).symm) V.LJ rfl .nil rfl ?_
 refine rO TT 3 rfl ?_
 refine bB rfl ?_
 refine oV (bC (dD rfl rfl) omg) ?_
 refine rO TT 3 rfl ?_
 refine bB rfl ?_
 refine oV (bC (cR rfl rfl) omg) ?_
 refine jC TT 12 rfl omg ?_
 refine oV (kW rfl rfl omg (so omg omg omg)) ?_
 refine rO TT 4 rfl ?_
 exact af (aw rfl) ⟨congrArg (Value.int .i64) he,rfl⟩ (sub .nil aj)

def L9(w bits:Int)(hw:0≤w∧w≤256)(hb:0≤bits∧bits≤64):aA Tryz.prog 50 [I6 w,I6 bits] [] (aF fun v G=>v=I6 (aa.eC w bits)∧G=[]):=by
 refine ao [(0,_),(1,_)] Tryz.func50 rfl Tryz.ntmps50 rfl rfl ?_
 intro w0 F
 have hr:=aa.mR hw hb
 have he:(w*bits+7)/8=(aa.eC w bits):=by unfold aa.eC;rfl
 refine rT TT 9 rfl ?_
 refine oV (bC (dD rfl rfl) omg) ?_
 refine rO TT 2 rfl ?_
 refine bB rfl ?_
 refine oV (bC (dD rfl rfl) omg) ?_
 refine rO TT 3 rfl ?_
 refine bB rfl ?_
 refine oV (bC (cR rfl rfl) omg) ?_
 refine rO TT 3 rfl ?_
 refine bB rfl ?_
 refine oV (bC (cR rfl rfl) omg) ?_
 refine jC TT 12 rfl omg ?_
 refine oV (kW rfl rfl omg (so omg omg omg)) ?_
 refine rO TT 4 rfl ?_
 exact af (aw rfl) ⟨congrArg (Value.int .i64) he,rfl⟩ (sub .nil aj)

def PW(p:Option Addr)(c:Nat)(l:List aa.Ps)(bits:Int)(R:ad)(hR:∀w0 h,R w0 h→aE PK p l.length l w0 h)(hl:l.length≤7)(hok:∀x∈l,aa.jt x)(hb:0≤bits∧bits≤64):aA Tryz.prog 83 [.slice p l.length c,.int .i64 bits] [R] (aF fun v G=>v=.int .i64 (aa.eJ l bits)∧G=[R]):=by
 refine ao [(0,_),(1,_)] Tryz.func83 rfl Tryz.ntmps83 rfl rfl ?_
 intro w0 F
 refine(uL) ?_
 refine(Qo) ?_
 refine(Q9) ?_
 refine(Q0) ?_
 refine(QL) ?_
 refine(Qc) ?_
 refine(Q0) ?_
 refine(Qo) ?_
 refine rO TT 20 rfl ?_
 rw[show((5:Nat),Value.int .i64 0)=(5,.int .i64 (aa.eJ (l.take 0) bits)) from by rw[List.take_zero];unfold aa.eJ;rfl]
 refine cF (fun(i:Nat)=>[(1,.int .i64 bits),(5,.int .i64 (aa.eJ (l.take i) bits)),(19,.slice p l.length c),(20,.int .i64 (l.length:Int)),(21,.int .i64 (i:Int))]) (fun(i:Nat)=>R::F) (fun(i:Nat)=>i≤l.length) (fun(i:Nat)=>l.length-i) (i1 (0) ?_ (bb ln) (sub (an .nil) aj)) ?_
 ·exact Nat.zero_le _
 intro i
 rintro hi
 obtain⟨x,hx⟩:∃x,x=(PK.g l (i:Int)):=⟨_,rfl⟩
 refine(Qs) ?_
 refine av rfl (fun h22=>?_) (fun h22=>?_)
 ·refine(Qb) ?_
  have hpo:aa.jt x:=hx▸aa.D6 hok (i:=i) omg
  have hpb:=aa.Bz hpo hb
  have hbi:=aa.sw (l:=l.take i) hb (fun q hq=>hok q (List.mem_of_mem_take hq))
  have hli:(l.take i).length≤i:=by rw[List.length_take];omega
  obtain⟨_,_,_,_,_,_,hw0,hw1,hh0,hh1⟩:=hpo
  have hrn:=aa.mR (w:=x.w) ⟨hw0,hw1⟩ hb
  refine(QF) ?_
  refine oV (xI V.vL (by exact bK hR ay))<|oV (cn (v:=.agg #[.int .i64 x.x,.int .i64 x.y,.int .i64 x.dx,.int .i64 x.dy,.int .i64 x.w,.int .i64 x.h]) (mU (c:=PK) V.a145 rfl (by exact bK hR ay) omg omg rfl) (by rw[hx]))<|de V.z145 rfl ?_
  intro b7
  refine(Ts)<|(Q1)<|(Ql) ?_
  refine oC (Bb x.w true (decide_eq_true ⟨hw0,hw1⟩).symm) V.LJ rfl .nil rfl<|(SF) ?_
  refine oC (Bb x.h true (decide_eq_true ⟨hh0,hh1⟩).symm) V.LJ rfl .nil rfl<|(Qd) ?_
  rcases(Classical.em (0<x.w)) with hq|hq
  ·refine(Q3) ?_
   refine(Ql) ?_
   refine(Qp) ?_
   refine(Qc) ?_
   refine wN [pz 0 [] [5],pz 0 [] [7],pz 2 [1] [],pz 0 [] [7],pz 8 [3] [],pz 0 [] [1],pz 56 [4,5] [],pz 120 [6] [],pz 254 [2,7] [],pz 511 [0,8] [],pz 1023 [9] []] [⟨fun y=>ai b7 145 [.int .i64 x.x,.int .i64 x.y,.int .i64 x.dx,.int .i64 x.dy,.int .i64 x.w,.int .i64 x.h],none,none,[2,4]⟩,⟨fun y=>R,none,none,[]⟩] F V.mixed ?_
   refine nM ?_
   refine nG V.U1 ?_
   refine(Qz) ?_
   refine nG V.SD ?_
   refine(Qz) ?_
   refine nM ?_
   refine nE (fun y FF hA=>aO (Post:=[]) (Og x.w bits ⟨hw0,hw1⟩ hb) V.Tr rfl .nil (fun v G h=>by rcases h with⟨rfl,rfl⟩;exact⟨rfl,.refl _⟩)) ?_
   refine(Qv) ?_
   refine(ZH) ?_
   refine(Qv) ?_
   refine nA ?_
   refine(Qi) ?_
   intro y hA
   clear hA
   show ks _ _ _ _ (ai b7 145 [.int .i64 x.x,.int .i64 x.y,.int .i64 x.dx,.int .i64 x.dy,.int .i64 x.w,.int .i64 x.h]::R::F)
   refine(MP)<|(sF)<|(Q8) ?_
   refine ga ?_
   have ht:=aa.mZ (l:=l) (bits:=bits) (i:=i) omg
   rw[show l.getD i ⟨0,0,0,0,0,0⟩=x from hx.symm] at ht
   (rw[aa.L6 (by assumption)] at ht;rw[←ht];exact j1 (i+1) ⟨omg,omg⟩ (bb ln) (sub (.cons ar .nil) bg))
  ·refine(wT)<|(Qo)<|(uM) ?_
   have ht:=aa.mZ (l:=l) (bits:=bits) (i:=i) omg
   rw[show l.getD i ⟨0,0,0,0,0,0⟩=x from hx.symm] at ht
   (rw[aa.L7 (by assumption),Int.add_zero] at ht;rw[←ht];exact j1 (i+1) ⟨omg,omg⟩ (bb ln) (sub (.cons ar .nil) bg))
 ·refine(Qf) ?_
  obtain rfl:i=l.length:=omg
  rw[List.take_length]
  refine(Qf) ?_
  exact af (aw rfl) ⟨rfl,rfl⟩ (sub (an .nil) aj)

def Pm(p:Option Addr)(c:Nat)(l:List aa.Ps)(bits:Int)(R:ad)(hR:∀w0 h,R w0 h→aE gY p l.length l w0 h)(hl:l.length≤7)(hok:∀x∈l,aa.jt x)(hb:0≤bits∧bits≤64):aA Tryz.prog 48 [.slice p l.length c,.int .i64 bits] [R] (aF fun v G=>v=.int .i64 (aa.eJ l bits)∧G=[R]):=by
 refine ao [(0,_),(1,_)] Tryz.func48 rfl Tryz.ntmps48 rfl rfl ?_
 intro w0 F
 refine(uL) ?_
 refine(Qo) ?_
 refine(Q9) ?_
 refine(Q0) ?_
 refine(QL) ?_
 refine(Qc) ?_
 refine(Q0) ?_
 refine(Qo) ?_
 refine(qK) ?_
 rw[show((5:Nat),Value.int .i64 0)=(5,.int .i64 (aa.eJ (l.take 0) bits)) from by rw[List.take_zero];unfold aa.eJ;rfl]
 refine cF (fun(i:Nat)=>[(0,.slice p l.length c),(1,.int .i64 bits),(5,.int .i64 (aa.eJ (l.take i) bits)),(6,.int .i64 (i:Int))]) (fun(i:Nat)=>R::F) (fun(i:Nat)=>i≤l.length) (fun(i:Nat)=>l.length-i) (i1 (0) ?_ (cK ln) (sub (an .nil) aj)) ?_
 ·exact Nat.zero_le _
 intro i
 rintro hi
 obtain⟨x,hx⟩:∃x,x=(gY.g l (i:Int)):=⟨_,rfl⟩
 refine(pe) ?_
 refine av rfl (fun h21=>?_) (fun h21=>?_)
 ·refine(Qf) ?_
  have hpo:aa.jt x:=hx▸aa.D6 hok (i:=i) omg
  have hpb:=aa.Bz hpo hb
  have hbi:=aa.sw (l:=l.take i) hb (fun q hq=>hok q (List.mem_of_mem_take hq))
  have hli:(l.take i).length≤i:=by rw[List.length_take];omega
  obtain⟨_,_,_,_,_,_,hw0,hw1,hh0,hh1⟩:=hpo
  have hrn:=aa.mR (w:=x.w) ⟨hw0,hw1⟩ hb
  refine(Q3) ?_
  refine(Du) ?_
  refine(Nc) ?_
  refine(Nx) ?_
  refine(QL) ?_
  refine(Qc) ?_
  refine(Q0) ?_
  refine(Du) ?_
  refine(Q0) ?_
  refine oV (bP V.F0 rfl) ?_
  refine(Q0) ?_
  refine(Q86) ?_
  refine(Q0) ?_
  refine(QL) ?_
  refine(Q7) ?_
  refine(Q0) ?_
  refine(Du) ?_
  refine(Q0) ?_
  refine(Nc) ?_
  refine(Q0) ?_
  refine(Nx) ?_
  refine(Q0) ?_
  refine(Qo) ?_
  refine(Q7) ?_
  refine(Q0)<|(Du)<|(Q0) ?_
  refine oV (bP V.F0 rfl)<|(Q0)<|(Q86)<|(Ai)<|(Q1) ?_
  rcases(Classical.em (0<x.w)) with hq|hq
  ·refine(Q4)<|(Du)<|(Nc)<|(Nx)<|(Qp)<|(Qc) ?_
   refine wN [pz 0 [] [5],pz 0 [] [0],pz 0 [] [6],pz 6 [1,2] [],pz 14 [3] [],pz 30 [4] [],pz 0 [] [0],pz 0 [] [6],pz 192 [6,7] [],pz 448 [8] [],pz 960 [9] [],pz 0 [] [1],pz 4032 [10,11] [],pz 8128 [12] [],pz 16382 [5,13] [],pz 32767 [0,14] [],pz 65535 [15] []] [⟨fun y=>R,none,none,[3,5,8,10]⟩] F V.mixed ?_
   iterate 3 refine nM ?_
   refine nR (fun y FF hA=>xI V.qU (by exact bK hR ay)) ?_
   refine nG V.F0 ?_
   refine nR (fun y FF hA=>cn (v:=.int .i64 x.h) (fE (c:=gY) 5 V.s3 rfl (by exact bK hR ay) omg omg rfl rfl) (by rw[hx])) ?_
   iterate 2 refine nM ?_
   refine nR (fun y FF hA=>xI V.qU (by exact bK hR ay)) ?_
   refine nG V.Me ?_
   refine nR (fun y FF hA=>cn (v:=.int .i64 x.w) (fE (c:=gY) 4 V.s3 rfl (by exact bK hR ay) omg omg rfl rfl) (by rw[hx])) ?_
   refine nM ?_
   refine nE (fun y FF hA=>aO (Post:=[]) (L9 x.w bits ⟨hw0,hw1⟩ hb) V.VG rfl .nil (fun v G h=>by rcases h with⟨rfl,rfl⟩;exact⟨rfl,.refl _⟩)) ?_
   refine(Qv) ?_
   refine(ZH) ?_
   refine(Qv) ?_
   refine nA ?_
   refine(Qi) ?_
   intro y hA
   clear hA
   show ks _ _ _ _ (R::F)
   refine(uR)<|(sF)<|(tu) ?_
   have ht:=aa.mZ (l:=l) (bits:=bits) (i:=i) omg
   rw[show l.getD i ⟨0,0,0,0,0,0⟩=x from hx.symm] at ht
   (rw[aa.L6 (by assumption)] at ht;rw[←ht];exact j1 (i+1) ⟨omg,omg⟩ (cK ln) (sub (an .nil) aj))
  ·refine(Q4)<|(Du)<|(Nc)<|(Nx)<|(Qo)<|(zw) ?_
   have ht:=aa.mZ (l:=l) (bits:=bits) (i:=i) omg
   rw[show l.getD i ⟨0,0,0,0,0,0⟩=x from hx.symm] at ht
   (rw[aa.L7 (by assumption),Int.add_zero] at ht;rw[←ht];exact j1 (i+1) ⟨omg,omg⟩ (cK ln) (sub (an .nil) aj))
 ·refine(Qf) ?_
  obtain rfl:i=l.length:=omg
  rw[List.take_length]
  refine(Qf) ?_
  exact af (aw rfl) ⟨rfl,rfl⟩ (sub (an .nil) aj)

def Ku(w h:Int)(hs:aa.bD w h=0):aA Tryz.prog 29 [.int .i64 w,.int .i64 h] [] (aF fun v G=>∃p c,v=.slice p (aa.fq w h).length c∧G=[Row gY p (aa.fq w h).length c (aa.fq w h)]):=by
 refine ao [(0,_),(1,_)] Tryz.func29 rfl Tryz.ntmps29 rfl rfl ?_
 intro w0 F
 have hsd:=aa.jj hs
 have hw:0≤w∧w≤256:=omg
 have hh:0≤h∧h≤256:=omg
 refine(uL) ?_
 refine aQ (mh w h) V.r4 rfl .nil rfl ?_
 rintro _ _ ⟨rfl,rfl⟩
 rw[hs]
 refine(QM)<|(Qd) ?_
 refine oV (cE V.sI V.pn rfl (cs:=[.int .i64 0,.int .i64 0,.int .i64 8,.int .i64 8,.int .i64 0,.int .i64 0]) (by kernel_rfl))<|oV (cE V.sI V.pn rfl (cs:=[.int .i64 4,.int .i64 0,.int .i64 8,.int .i64 8,.int .i64 0,.int .i64 0]) (by kernel_rfl))<|oV (cE V.sI V.pn rfl (cs:=[.int .i64 0,.int .i64 4,.int .i64 4,.int .i64 8,.int .i64 0,.int .i64 0]) (by kernel_rfl))<|oV (cE V.sI V.pn rfl (cs:=[.int .i64 2,.int .i64 0,.int .i64 4,.int .i64 4,.int .i64 0,.int .i64 0]) (by kernel_rfl))<|oV (cE V.sI V.pn rfl (cs:=[.int .i64 0,.int .i64 2,.int .i64 2,.int .i64 4,.int .i64 0,.int .i64 0]) (by kernel_rfl))<|oV (cE V.sI V.pn rfl (cs:=[.int .i64 1,.int .i64 0,.int .i64 2,.int .i64 2,.int .i64 0,.int .i64 0]) (by kernel_rfl))<|oV (cE V.sI V.pn rfl (cs:=[.int .i64 0,.int .i64 1,.int .i64 1,.int .i64 2,.int .i64 0,.int .i64 0]) (by kernel_rfl))<|cg (gY) aa.wY V.qU V.pn rfl rfl rfl (by unfold aa.wY;kernel_rfl) (by unfold aa.wY;rfl) rfl ?_
 intro yP
 refine(QC) ?_
 rw[show((6:Nat),Value.slice none 0 0)=(6,.slice none (aa.fp w h 0).length 0) from by rw[aa.wX];rfl]
 refine gL (Row gY none (aa.fp w h 0).length 0 (aa.fp w h 0)) (by rw[aa.wX];exact Row.nil _ _ _) ?_
 refine dP (fun(i:Nat) (p6:Option Addr) (c6:Nat)=>[(0,.int .i64 w),(1,.int .i64 h),(5,.slice (soz yP) 7 7),(6,.slice p6 (aa.fp w h i).length c6),(7,.int .i64 (i:Int))]) (fun(i:Nat) (p6:Option Addr) (c6:Nat)=>Row gY p6 (aa.fp w h i).length c6 (aa.fp w h i)::Row gY (soz yP) 7 7 aa.wY::F) (fun(i:Nat) (p6:Option Addr) (c6:Nat)=>i≤7) (fun(i:Nat) (p6:Option Addr) (c6:Nat)=>7-i) (i3 (0) (none) (0) ?_ (bb ln) (sub (aJ .nil) aj)) ?_
 ·exact Nat.zero_le _
 intro i p6 c6
 rintro hi
 have hpl:=aa.AV w h i
 refine(qP) ?_
 refine av rfl (fun h24=>?_) (fun h24=>?_)
 ·refine(Qb) ?_
  obtain⟨x,hx⟩:∃x,x=(gY.g aa.wY (i:Int)):=⟨_,rfl⟩
  obtain⟨hal,hxx,hxy,hdx,hdy,hxw,hxh⟩:=aa.OQ w h (i:=i) omg (s:=x) hx
  have hmw:=aa.tW (frm:=x.x) (e:=w) hxx.1 hw.1 hdx
  have hmh:=aa.tW (frm:=x.y) (e:=h) hxy.1 hh.1 hdy
  refine(Q3) ?_
  refine oV (xI V.qU (own cX))<|oV (cn (v:=.agg #[.int .i64 x.x,.int .i64 x.y,.int .i64 x.dx,.int .i64 x.dy,.int .i64 0,.int .i64 0]) (mU (c:=gY) V.Nb rfl (own cX) omg omg rfl) (by rw[←hx];show Value.agg #[.int .i64 x.x,.int .i64 x.y,.int .i64 x.dx,.int .i64 x.dy,.int .i64 x.w,.int .i64 x.h]=_;rw[hxw,hxh]))<|de V.pn rfl ?_
  intro b8
  refine(Q87)<|(Q1)<|(Ql)<|(Q7) ?_
  rw[show((9:Nat),Value.int .i64 x.x)=(9,.int .i64 (x.x+((0:Nat):Int)*x.dx)) from by rw[←aa.Vn]]
  refine cF (fun(k:Nat)=>[(0,.int .i64 w),(1,.int .i64 h),(5,.slice (soz yP) 7 7),(6,.slice p6 (aa.fp w h i).length c6),(7,.int .i64 (i:Int)),(8,.pointer (soz b8)),(9,.int .i64 (x.x+(k:Int)*x.dx))]) (fun(k:Nat)=>ai b8 67 [.int .i64 x.x,.int .i64 x.y,.int .i64 x.dx,.int .i64 x.dy,.int .i64 (k:Int),.int .i64 0]::Row gY p6 (aa.fp w h i).length c6 (aa.fp w h i)::Row gY (soz yP) 7 7 aa.wY::F) (fun(k:Nat)=>(k:Int)≤(aa.many x.x x.dx w)) (fun(k:Nat)=>(aa.many x.x x.dx w).toNat-k) (i1 (0) ?_ (fF (bb ln)) (sub (dV .nil) aj)) ?_
  ·exact aa.tX hdx
  intro k
  rintro hk
  refine rL TT 2 rfl ?_
  have hkd:=aa.NW (k:=k) hdx omg
  refine(Qf) ?_
  refine av rfl (fun h35=>?_) (fun h35=>?_)
  ·refine(Qf)<|(Ql)<|(o7)<|(m9)<|(Q1)<|(Ql)<|(xl) ?_
   have hk1:=(aa.pZ hdx omg).1 (by assumption:x.x+(k:Int)*x.dx<w)
   rw[aa.UF]
   exact j1 (k+1) ⟨omg,omg⟩ (fF (bb ln)) (sub (dV .nil) aj)
  ·refine(Qr) ?_
   have hkw:=aa.rX hdx hk (by assumption)
   rw[hkw]
   refine(Q5)<|(Ql)<|(Q7) ?_
   rw[show((10:Nat),Value.int .i64 x.y)=(10,.int .i64 (x.y+((0:Nat):Int)*x.dy)) from by rw[←aa.Vn]]
   refine cF (fun(k:Nat)=>[(0,.int .i64 w),(1,.int .i64 h),(5,.slice (soz yP) 7 7),(6,.slice p6 (aa.fp w h i).length c6),(7,.int .i64 (i:Int)),(8,.pointer (soz b8)),(10,.int .i64 (x.y+(k:Int)*x.dy))]) (fun(k:Nat)=>ai b8 67 [.int .i64 x.x,.int .i64 x.y,.int .i64 x.dx,.int .i64 x.dy,.int .i64 (aa.many x.x x.dx w),.int .i64 (k:Int)]::Row gY p6 (aa.fp w h i).length c6 (aa.fp w h i)::Row gY (soz yP) 7 7 aa.wY::F) (fun(k:Nat)=>(k:Int)≤(aa.many x.y x.dy h)) (fun(k:Nat)=>(aa.many x.y x.dy h).toNat-k) (i1 (0) ?_ (fF (bb ln)) (sub (dV .nil) aj)) ?_
   ·exact aa.tX hdy
   intro k
   rintro hk
   refine rL TT 2 rfl ?_
   have hkd:=aa.NW (k:=k) hdy omg
   refine(Qf) ?_
   refine av rfl (fun h48=>?_) (fun h48=>?_)
   ·refine(Qf)<|(Ql)<|(o7)<|(m9)<|(Q1)<|(Ql)<|(xl) ?_
    have hk1:=(aa.pZ hdy omg).1 (by assumption:x.y+(k:Int)*x.dy<h)
    rw[aa.UF]
    exact j1 (k+1) ⟨omg,omg⟩ (fF (bb ln)) (sub (dV .nil) aj)
   ·refine(Qb) ?_
    rcases(aa.G2 (aa.pK x.x x.y x.dx x.dy w h)) with⟨q1,q2⟩|⟨q1,q3,q2⟩|⟨q1,q3,q2⟩
    ·refine(Qa) ?_
     have hkh:=aa.rX hdy hk (by assumption)
     rw[hkh]
     refine(Q5)<|(Ql) ?_
     refine oV (bC (cR rfl rfl) q1)<|(w5) ?_
     (rw[aa.xf (i:=i) omg hal q2];exact j3 (i+1) _ _ ⟨omg,omg⟩ (bb ln) (sub (.cons ar (.cons ar .nil)) bg))
    ·refine(Qa) ?_
     have hkh:=aa.rX hdy hk (by assumption)
     rw[hkh]
     refine(Q5)<|(Ql) ?_
     refine oV (bQ (cR rfl rfl) q1)<|(Qm)<|(nX) ?_
     refine oV (bC (cR rfl rfl) q3)<|(Co) ?_
     (rw[aa.xf (i:=i) omg hal q2];exact j3 (i+1) _ _ ⟨omg,omg⟩ (bb ln) (sub (.cons ar (.cons ar .nil)) bg))
    ·refine(Qa) ?_
     have hkh:=aa.rX hdy hk (by assumption)
     rw[hkh]
     refine(Q5)<|(Ql) ?_
     refine oV (bQ (cR rfl rfl) q1)<|(Qm)<|(nX) ?_
     refine oV (bQ (cR rfl rfl) q3)<|(Q1) ?_
     refine oV (bU V.Nb rfl ay (vs:=[_,_,_,_,_,_]) rfl rfl)<|cg (gY) [(aa.pK x.x x.y x.dx x.dy w h)] V.qU V.pn rfl rfl rfl (by kernel_rfl) rfl rfl ?_
     intro GR
     refine ei (c:=(gY)) V.qU V.pn rfl rfl rfl rfl aL (own ay) omg rfl ?_
     intro p68 c68
     refine(QU) ?_
     (have hl2:(aa.fp w h i).length+1=(aa.fp w h (i+1)).length:=(congrArg List.length (aa.wj (i:=i) (p:=(aa.pK x.x x.y x.dx x.dy w h)) omg hal q2)).symm▸(by simp)
      rw[aa.wj (i:=i) (p:=(aa.pK x.x x.y x.dx x.dy w h)) omg hal q2,hl2]
      exact j3 (i+1) _ _ ⟨omg,omg⟩ (bb ln) (sub (an (.cons aL .nil)) dC))
 ·refine(Qf) ?_
  obtain rfl:i=7:=omg
  rw[aa.JC]
  refine(Qf) ?_
  exact af (aw rfl) ⟨_,_,rfl,rfl⟩ (sub (an .nil) bg)

def RA(p:Option Addr)(c:Nat)(l:List Int)(R:ad)(hR:∀w0 h,R w0 h→aE (aK 3 .i64) p l.length l w0 h)(hl:l.length<500000000)(x:Int):aA Tryz.prog 129 [.slice p l.length c,I6 x] [R] (aF fun v G=>∃r:Int,v=I6 r∧(0≤r↔x∈l)∧G=[R]):=by
 refine ao [(0,_),(1,_)] Tryz.func129 rfl Tryz.ntmps129 rfl rfl ?_
 intro w0 F
 refine rT TT 14 rfl ?_
 refine cF (fun(i:Nat)=>[(0,.slice p l.length c),(1,I6 x),(7,I6 (l.length:Int)),(8,I6 (i:Int))]) (fun(i:Nat)=>R::F) (fun(i:Nat)=>i≤l.length∧∀j,j<i→x≠l.getD j 0) (fun(i:Nat)=>l.length-i) (i1 (0) ?_ (cK ln) (sub (an .nil) aj)) ?_
 ·exact⟨Nat.zero_le _,fun j hj=>by omega⟩
 intro i
 rintro⟨hi,hall⟩
 refine(Qs) ?_
 refine av rfl (fun h9=>?_) (fun h9=>?_)
 ·refine(QN) ?_
  rcases(Classical.em (x=((aK 3 .i64).g l (i:Int)))) with hnx|hnx
  ·refine(Qb)<|(Q90) ?_
   refine oV (bQ (bG rfl rfl) hnx)<|(QC) ?_
   exact af (aw rfl) ⟨_,rfl,⟨fun _=>aa.U7 (i:=i) omg hnx,fun _=>by omega⟩,rfl⟩ (sub (an .nil) aj)
  ·refine(Qb)<|(Q90) ?_
   refine oV (bC (bG rfl rfl) hnx)<|(uM) ?_
   refine j1 (i+1) ?_ (cK ln) (sub (an .nil) aj)
   exact⟨⟨omg,fun j hj=>(Nat.lt_succ_iff_lt_or_eq.1 hj).elim (hall j) (fun e=>e▸hnx)⟩,omg⟩
 ·refine(lW) ?_
  obtain rfl:i=l.length:=omg
  exact af (aw rfl) ⟨_,rfl,⟨fun hh=>absurd hh dec,fun hh=>absurd hh (aa.PQ hall)⟩,rfl⟩ (sub (an .nil) aj)

def wC(p:Option Addr)(c:Nat)(l:List Int)(R:ad)(hR:∀w0 h,R w0 h→aE (aK 3 .i64) p l.length l w0 h)(hl:l.length<500000000)(x:Int)(t:Bool)(ht:t=decide (x∈l)):aA Tryz.prog 94 [.slice p l.length c,I6 x] [R] (aF fun v G=>v=.bool t∧G=[R]):=by
 refine ao [(0,_),(1,_)] Tryz.func94 rfl Tryz.ntmps94 rfl rfl ?_
 intro w0 F
 refine(mz) ?_
 refine aQ (RA p c l R hR hl x) V.abV rfl (an .nil) rfl ?_
 rintro _ _ ⟨r7,rfl,hr7,rfl⟩
 refine(Q6) ?_
 rw[aa.O3 ht hr7]
 exact af (aw rfl) ⟨rfl,rfl⟩ (sub (an .nil) aj)

def gV(x:Int):aA Tryz.prog 19 [I6 x] [] (aF fun v G=>v=I6 (aa.parts x)∧G=[]):=by
 refine ao [(0,_)] Tryz.func19 rfl Tryz.ntmps19 rfl rfl ?_
 intro w0 F
 refine(QV) ?_
 rcases(aa.tp x) with⟨a0,hs⟩|⟨a0,a1,hs⟩|⟨a0,a1,a2,hs⟩|⟨a0,a1,a2,a3,hs⟩|⟨a0,a1,a2,a3,a4,hs⟩|⟨a0,a1,a2,a3,a4,hs⟩
 ·refine(QN)<|(QD)<|(QC) ?_
  exact af (aw rfl) ⟨congrArg (Value.int .i64) hs.symm,rfl⟩ (sub .nil aj)
 ·refine(QN) ?_
  refine(QA) ?_
  refine(Q6) ?_
  refine(QD) ?_
  refine(Qy) ?_
  exact af (aw rfl) ⟨congrArg (Value.int .i64) hs.symm,rfl⟩ (sub .nil aj)
 ·refine(QN) ?_
  refine(QA) ?_
  refine(Q6) ?_
  refine(QA) ?_
  refine(Q1) ?_
  refine(QD) ?_
  refine(Qy) ?_
  exact af (aw rfl) ⟨congrArg (Value.int .i64) hs.symm,rfl⟩ (sub .nil aj)
 ·refine(QN) ?_
  refine(QA) ?_
  refine(Q6) ?_
  refine(QA) ?_
  refine(Q1) ?_
  refine(QA) ?_
  refine(Q1) ?_
  refine(QD) ?_
  refine(Qy) ?_
  exact af (aw rfl) ⟨congrArg (Value.int .i64) hs.symm,rfl⟩ (sub .nil aj)
 ·refine(QN) ?_
  refine(QA) ?_
  refine(Q6) ?_
  refine(QA) ?_
  refine(Q1) ?_
  refine(QA) ?_
  refine(Q1) ?_
  refine(QA) ?_
  refine(Q1) ?_
  refine(QD) ?_
  refine(Qy) ?_
  exact af (aw rfl) ⟨congrArg (Value.int .i64) hs.symm,rfl⟩ (sub .nil aj)
 ·refine(QN) ?_
  refine(QA) ?_
  refine(Q6) ?_
  refine(QA) ?_
  refine(Q1) ?_
  refine(QA) ?_
  refine(Q1) ?_
  refine(QA) ?_
  refine(Q1) ?_
  refine(QA) ?_
  refine(Qq) ?_
  exact af (aw rfl) ⟨congrArg (Value.int .i64) hs.symm,rfl⟩ (sub .nil aj)

def tO(x:Int):aA Tryz.prog 20 [I6 x] [] (aF fun v G=>v=I6 (aa.parts x)∧G=[]):=by
 refine ao [(0,_)] Tryz.func20 rfl Tryz.ntmps20 rfl rfl ?_
 intro w0 F
 refine(QV) ?_
 rcases(aa.tp x) with⟨a0,hs⟩|⟨a0,a1,hs⟩|⟨a0,a1,a2,hs⟩|⟨a0,a1,a2,a3,hs⟩|⟨a0,a1,a2,a3,a4,hs⟩|⟨a0,a1,a2,a3,a4,hs⟩
 ·refine(QN)<|(QD)<|(QC) ?_
  exact af (aw rfl) ⟨congrArg (Value.int .i64) hs.symm,rfl⟩ (sub .nil aj)
 ·refine(QN) ?_
  refine(QA) ?_
  refine(Q6) ?_
  refine(QD) ?_
  refine(Qy) ?_
  exact af (aw rfl) ⟨congrArg (Value.int .i64) hs.symm,rfl⟩ (sub .nil aj)
 ·refine(QN) ?_
  refine(QA) ?_
  refine(Q6) ?_
  refine(QA) ?_
  refine(Q1) ?_
  refine(QD) ?_
  refine(Qy) ?_
  exact af (aw rfl) ⟨congrArg (Value.int .i64) hs.symm,rfl⟩ (sub .nil aj)
 ·refine(QN) ?_
  refine(QA) ?_
  refine(Q6) ?_
  refine(QA) ?_
  refine(Q1) ?_
  refine(QA) ?_
  refine(Q1) ?_
  refine(QD) ?_
  refine(Qy) ?_
  exact af (aw rfl) ⟨congrArg (Value.int .i64) hs.symm,rfl⟩ (sub .nil aj)
 ·refine(QN) ?_
  refine(QA) ?_
  refine(Q6) ?_
  refine(QA) ?_
  refine(Q1) ?_
  refine(QA) ?_
  refine(Q1) ?_
  refine(QA) ?_
  refine(Q1) ?_
  refine(QD) ?_
  refine(Qy) ?_
  exact af (aw rfl) ⟨congrArg (Value.int .i64) hs.symm,rfl⟩ (sub .nil aj)
 ·refine(QN) ?_
  refine(QA) ?_
  refine(Q6) ?_
  refine(QA) ?_
  refine(Q1) ?_
  refine(QA) ?_
  refine(Q1) ?_
  refine(QA) ?_
  refine(Q1) ?_
  refine(QA) ?_
  refine(Qq) ?_
  exact af (aw rfl) ⟨congrArg (Value.int .i64) hs.symm,rfl⟩ (sub .nil aj)

def HF(x d:Int)(t:Bool)(ht:t=decide (aa.deep x d)):aA Tryz.prog 57 [I6 x,I6 d] [] (aF fun v G=>v=.bool t∧G=[]):=by
 refine ao [(0,_),(1,_)] Tryz.func57 rfl Tryz.ntmps57 rfl rfl ?_
 intro w0 F
 refine(QV) ?_
 rcases(aa.YA x d) with⟨a0,hs⟩|⟨a0,a1,hs⟩|⟨a0,a1,a2,hs⟩|⟨a0,a1,a2,a3,hs⟩|⟨a0,a1,a2,a3,hs⟩
 ·refine(QJ)<|(QD)<|(Q1) ?_
  refine cg (I3) [1,2,4,8,16] V.cy V.z3 rfl rfl rfl rfl rfl rfl ?_
  intro b8
  refine(Q8) ?_
  refine oC (wC (soz b8) 5 [1,2,4,8,16] (Row (aK 3 .i64) (soz b8) 5 5 [1,2,4,8,16]) (fun _ _ hh=>hh.rd) dec d t (ht.trans hs)) V.ZF rfl (an .nil) rfl<|(Q1) ?_
  (rw[ht.trans hs];exact af (G:=[]) (aw rfl) ⟨rfl,rfl⟩ (sub .nil bg))
 ·refine(QJ) ?_
  refine(QA) ?_
  refine(Q1) ?_
  refine(QD) ?_
  refine(Q1) ?_
  refine cg (I3) [1,2,4,8] V.cy V.z3 rfl rfl rfl rfl rfl rfl ?_
  intro Mg
  refine(Q8) ?_
  refine oC (wC (soz Mg) 4 [1,2,4,8] (Row (aK 3 .i64) (soz Mg) 4 4 [1,2,4,8]) (fun _ _ hh=>hh.rd) dec d t (ht.trans hs)) V.ZF rfl (an .nil) rfl<|(Q1) ?_
  (rw[ht.trans hs];exact af (G:=[]) (aw rfl) ⟨rfl,rfl⟩ (sub .nil bg))
 ·refine(QJ) ?_
  refine(QA) ?_
  refine(Q1) ?_
  refine(QA) ?_
  refine(Qg) ?_
  refine oC (gV x) V.pg rfl .nil rfl ?_
  refine(Qo) ?_
  refine(Qy) ?_
  (rw[←ht.trans hs];exact af (G:=[]) (aw rfl) ⟨rfl,rfl⟩ (sub .nil aj))
 ·refine(QJ) ?_
  refine(QA) ?_
  refine(Q1) ?_
  refine(QA) ?_
  refine(Qg) ?_
  refine oC (gV x) V.pg rfl .nil rfl ?_
  refine(Qp) ?_
  refine(Q9) ?_
  refine(Q0) ?_
  refine(QD) ?_
  refine(Qn) ?_
  (rw[←ht.trans hs];exact af (G:=[]) (aw rfl) ⟨rfl,rfl⟩ (sub .nil aj))
 ·refine(QJ) ?_
  refine(QA) ?_
  refine(Q1) ?_
  refine(QA) ?_
  refine(Qg) ?_
  refine oC (gV x) V.pg rfl .nil rfl ?_
  refine(Qp) ?_
  refine(Q9) ?_
  refine(Q0) ?_
  refine(QA) ?_
  refine(Qn) ?_
  (rw[←ht.trans hs];exact af (G:=[]) (aw rfl) ⟨rfl,rfl⟩ (sub .nil aj))
end Go.Proofs.YtmaiakpjgomnpaaGreat
namespace Go.Proofs.YtmaiakpjgomnpaaGreat
open Go.Sl
def V.Km:az Tryz.prog 130=true:=by kernel_rfl
def V.V8:az Tryz.prog 140=true:=by kernel_rfl
def V.ach:az Tryz.prog 141=true:=by kernel_rfl
def V.Ky:az Tryz.prog 163=true:=by kernel_rfl
def V.JK:az Tryz.prog 164=true:=by kernel_rfl
def V.acj:az Tryz.prog 165=true:=by kernel_rfl
def V.yF:az Tryz.prog 61=true:=by kernel_rfl
def V.b95:az Tryz.prog 95=true:=by kernel_rfl
end Go.Proofs.YtmaiakpjgomnpaaGreat
namespace Go.Proofs.YtmaiakpjgomnpaaGreat
open Go.Sl
def V.lH:jP Tryz.prog 68=some (4,62,1):=by kernel_rfl
def V.ab2:az Tryz.prog 161=true:=by kernel_rfl
def V.Tc:az Tryz.prog 172=true:=by kernel_rfl
def V.acf:az Tryz.prog 185=true:=by kernel_rfl
def V.kM:az Tryz.prog 21=true:=by kernel_rfl
def V.GR:az Tryz.prog 67=true:=by kernel_rfl
def V.b93:az Tryz.prog 93=true:=by kernel_rfl
def V.adM:bo Tryz.prog 158 0=some 0:=by kernel_rfl
def V.F1:bo Tryz.prog 38 2=some 2:=by kernel_rfl
def V.Yx:eQ Tryz.prog 158=some [(0,4)]:=by kernel_rfl
def V.acZ:cW Tryz.prog 158=some ([.slice none 0 0,.slice none 0 0,.int .i64 0,.int .i64 0]):=by kernel_rfl
end Go.Proofs.YtmaiakpjgomnpaaGreat
namespace Go.Proofs.YtmaiakpjgomnpaaGreat
open Go.Sl 
attribute [local irreducible] ag.aq aa.bD aa.up aa.cL aa.gn
def HW (b:Nat) (B:List Int) (at_:Nat) (out:List Int) (free:Int):ad:=fun w0 h=>∃i:Lv,True∧cY w0 [ai b 158 [.slice i.p1 B.length i.c1,.slice i.p2 out.length i.c2,I6 (at_:Int),I6 free],Row U5 i.p1 B.length i.c1 B,Row U5 i.p2 out.length i.c2 out] h
def u9{b at_:Nat}{p1 p2:Option Addr}{c1 c2:Nat}{B out:List Int}{free:Int}{w0:World}{h:Hp}
  (hh:cY w0 [ai b 158 [.slice p1 B.length c1,.slice p2 out.length c2,I6 (at_:Int),I6 free],Row U5 p1 B.length c1 B,Row U5 p2 out.length c2 out] h):HW b B at_ out free w0 h:=⟨⟨p1,c1,p2,c2⟩,trivial,hh⟩
def PM(b:Nat)(B:List Int)(at_:Nat)(out:List Int)(free:Int)(hl:B.length<500000000)(ha:at_≤8*B.length):aA Tryz.prog 128 [.pointer (soz b)] [HW b B at_ out free] (aF fun v G=>v=I6 (8*(B.length:Int)-(at_:Int))∧G=[HW b B at_ out free]):=by
 refine ao [(0,_)] Tryz.func128 rfl Tryz.ntmps128 rfl rfl ?_
 intro w0 F
 refine(r1) ?_
 rintro⟨p1,c1,p2,c2⟩ _
 dsimp only
 refine(l6) ?_
 refine(jV) ?_
 refine rR TT 3 rfl ?_
 refine(Dr) ?_
 refine zV TT 5 rfl omg ?_
 refine(GH) ?_
 refine(Im) ?_
 refine(lq) ?_
 refine rN TT 2 rfl ?_
 exact af (aw rfl) ⟨rfl,rfl⟩ (aS (dV .nil) aj (fun w0 h hh=>u9 hh))
def Xd(b:Nat)(B:List Int)(at_:Nat)(out:List Int)(free:Int)(n:Int)(hl:B.length<500000000)(ha:at_≤8*B.length)(hn:0≤n∧n≤24∧n≤8*(B.length:Int)-at_):aA Tryz.prog 92 [.pointer (soz b),I6 n] [HW b B at_ out free] (aF fun v G=>v=.tuple #[]∧G=[HW b B at_ out free]):=by
 refine(V5) ?_
 intro w0 F
 refine rT TT 3 rfl ?_
 refine(QL) ?_
 refine(Q9) ?_
 refine(Q0) ?_
 refine(Qo) ?_
 refine(Q7) ?_
 refine(Q0) ?_
 refine oC (PM b B at_ out free hl ha) V.FO rfl (an .nil) rfl ?_
 refine(Q0) ?_
 refine(Qo) ?_
 refine(Q6) ?_
 exact ik fI ⟨rfl,rfl⟩ (sub (an .nil) aj)
def Pn(b:Nat)(B:List Int)(at_:Nat)(out:List Int)(free:Int)(hl:B.length<500000000)(hB:ag.aq B)(ha:at_<8*B.length):aA Tryz.prog 93 [.pointer (soz b)] [HW b B at_ out free] (aF fun v G=>v=I6 (aa.gn B at_)∧G=[HW b B (at_+1) out free]):=by
 refine ao [(0,_)] Tryz.func93 rfl Tryz.ntmps93 rfl rfl ?_
 intro w0 F
 refine(r1) ?_
 rintro⟨p1,c1,p2,c2⟩ _
 dsimp only
 have hq:U5.g B ((at_:Int)/8)=B.getD (at_/8) 0:=gE (at_/8) omg
 have hb:=hB.get (at_/8)
 have hd:=ag.rB hb.1 hb.2 (7-at_%8)
 have hb2:=aa.od B at_
 have hbd:B.getD (at_/8) 0/2^(7-at_%8)%2=aa.gn B at_:=by unfold aa.gn;rfl
 refine(l6)<|(jV) ?_
 refine rR TT 4 rfl<|(Dr) ?_
 refine rR TT 4 rfl<|(GH)<|(WI) ?_
 refine oR (xI V.bT (own cX))<|oR (xL V.s5 (own cX))<|rR TT 4 rfl<|(GH) ?_
 refine oR (n7 rfl rfl omg (rA omg))<|zV TT 1 rfl omg<|oR (eF (r:=B.getD (at_/8) 0/2^(7-at_%8)) rfl rfl omg (by rw[hq];exact ag.EW hb.1 omg omg))<|(qE)<|(lq) ?_
 refine rN TT 7 rfl<|(Ql)<|(uw)<|(m9)<|(Q6) ?_
 refine oV (iT (r:=aa.gn B at_) rfl rfl ((ag.Cl hd.1 hd.2).trans hbd))<|(mi)<|(Q7) ?_
 rw[show(at_:Int)+1=((at_+1:Nat):Int) from by omega]
 exact af (aw rfl) ⟨rfl,rfl⟩ (aS (dV .nil) aj (fun w0 h hh=>u9 hh))
def kR(b:Nat)(B:List Int)(at_:Nat)(out:List Int)(free:Int)(n:Nat)(hl:B.length<500000000)(hB:ag.aq B)(hn:n≤24)(ha:at_+n≤8*B.length):aA Tryz.prog 56 [.pointer (soz b),.int .i64 (n:Int)] [HW b B at_ out free] (aF fun v G=>v=.int .i64 (aa.cL B at_ n)∧G=[HW b B (at_+n) out free]):=by
 refine ao [(0,_),(1,_)] Tryz.func56 rfl Tryz.ntmps56 rfl rfl ?_
 intro w0 F
 refine rT TT 11 rfl<|aQ (Xd b B at_ out free n hl omg omg) V.Vc rfl (an .nil) rfl ?_
 rintro _ _ ⟨rfl,rfl⟩
 refine(QC) ?_
 rw[show((5:Nat),Value.int .i64 0)=(5,.int .i64 (aa.cL B at_ 0)) from by unfold aa.cL;rfl]
 refine cF (fun(k:Nat)=>[(0,.pointer (soz b)),(5,.int .i64 (aa.cL B at_ k)),(11,.int .i64 (n:Int)),(12,.int .i64 (k:Int))]) (fun(k:Nat)=>HW b B (at_+k) out free::F) (fun(k:Nat)=>k≤n) (fun(k:Nat)=>n-k) (i1 (0) ?_ (cK ln) (sub (an .nil) aj)) ?_
 ·exact Nat.zero_le _
 intro k
 rintro hk
 refine(Qs) ?_
 refine av rfl (fun h13=>?_) (fun h13=>?_)
 ·refine(Q4) ?_
  have hb:=aa.od B (at_+k)
  have hnb:=aa.tN B at_ (n:=k) omg
  refine(Q5)<|(Q88)<|(Q8) ?_
  refine oC (Pn b B (at_+k) out free hl hB omg) V.b93 rfl (an .nil) rfl<|(Q89)<|(QP) ?_
  refine j1 (k+1) ?_ (cK ln) (sub (an .nil) aj)
  exact⟨omg,omg⟩
 ·refine(qG) ?_
  obtain rfl:k=n:=omg
  exact af (aw rfl) ⟨rfl,rfl⟩ (sub (an .nil) aj)
def Bx(p:Option Addr)(cap:Nat)(B:List Int)(R:ad)(hR:∀w0 h,R w0 h→aE U5 p B.length B w0 h)(hl:B.length<500000000):aA Tryz.prog 54 [.slice p B.length cap] [R] (aF fun v G=>∃b,v=.pointer (soz b)∧G=[HW b B 0 [] 0,R]):=by
 refine ao [(0,_)] Tryz.func54 rfl Tryz.ntmps54 rfl rfl ?_
 intro w0 F
 refine(QQ) ?_
 refine aQ (pX p cap B R hR hl) V.EH rfl (an .nil) rfl ?_
 rintro _ _ ⟨q,c,rfl,rfl⟩
 refine(Q6L) ?_
 refine oV (cE V.Yx V.acZ rfl (cs:=[.slice q B.length c,.slice none 0 0,I6 0,I6 0]) rfl)<|(Q6M) ?_
 intro b7
 refine(Q7) ?_
 exact af (aw rfl) ⟨b7,rfl,rfl⟩ ((bH (A:=Row U5 none 0 0 []) (fun w0=>Row.nil _ _ _)).trans ((aS (.cons ar (.cons ar (an .nil))) aj (fun w0 h hh=>u9 (p1:=q) (c1:=c) (p2:=none) (c2:=0) (B:=B) (out:=[]) (at_:=0) (free:=0) hh)).trans (sub (aJ .nil) aj)))
def Rh(b:Nat)(p:Option Addr)(cap:Nat)(B:List Int)(R:ad)(hR:∀w0 h,R w0 h→aE U5 p B.length B w0 h)(at_:Nat)(sh:Bool)(hl:B.length<500000000)(ha:at_≤8*B.length):aA Tryz.prog 122 [.pointer (soz b)] [ai b 151 [.slice p B.length cap,I6 (at_:Int),.bool true,.bool sh],R] (aF fun v G=>v=I6 (8*(B.length:Int)-(at_:Int))∧G=[ai b 151 [.slice p B.length cap,I6 (at_:Int),.bool true,.bool sh],R]):=by
 refine ao [(0,_)] Tryz.func122 rfl Tryz.ntmps122 rfl rfl ?_
 intro w0 F
 refine(l6)<|(jV) ?_
 refine rR TT 3 rfl<|(Dr) ?_
 refine zV TT 5 rfl omg<|(GH)<|(Im)<|(By) ?_
 exact af (aw rfl) ⟨rfl,rfl⟩ (sub (aJ .nil) aj)
def VV(b:Nat)(p:Option Addr)(cap:Nat)(B:List Int)(R:ad)(hR:∀w0 h,R w0 h→aE U5 p B.length B w0 h)(at_:Nat)(sh:Bool)(hl:B.length<500000000)(hB:ag.aq B)(ha:at_<8*B.length):aA Tryz.prog 127 [.pointer (soz b)] [ai b 151 [.slice p B.length cap,I6 (at_:Int),.bool true,.bool sh],R] (aF fun v G=>v=I6 (aa.gn B at_)∧G=[ai b 151 [.slice p B.length cap,I6 ((at_+1:Nat):Int),.bool true,.bool sh],R]):=by
 refine ao [(0,_)] Tryz.func127 rfl Tryz.ntmps127 rfl rfl ?_
 intro w0 F
 have hq:U5.g B ((at_:Int)/8)=B.getD (at_/8) 0:=gE (at_/8) omg
 have hb:=hB.get (at_/8)
 have hd:=ag.rB hb.1 hb.2 (7-at_%8)
 have hb2:=aa.od B at_
 have hbd:B.getD (at_/8) 0/2^(7-at_%8)%2=aa.gn B at_:=by unfold aa.gn;rfl
 refine(l6)<|(jV) ?_
 refine rR TT 3 rfl<|(Dr) ?_
 refine rR TT 3 rfl<|(GH)<|(WI) ?_
 refine oR (xI V.bT (by exact bK hR cX))<|oR (xL V.s5 (by exact bK hR cX))<|(qE)<|(lq) ?_
 refine rN TT 6 rfl<|(Ql)<|(oU)<|(sk)<|(Qn)<|(nP)<|(Q6) ?_
 refine oV (k5 (r:=7-(at_:Int)%8) rfl rfl (FY omg omg))<|(Qe)<|(Ql)<|(xl)<|(m9)<|(Qc) ?_
 rw[hq]
 refine(Q3) ?_
 refine oV (eF (r:=B.getD (at_/8) 0/2^(7-at_%8)) rfl rfl omg (ag.EW hb.1 omg omg)) ?_
 refine(mi) ?_
 refine oV (iT (r:=aa.gn B at_) rfl rfl ((ag.zp hd.1 omg).trans hbd)) ?_
 refine(Q7) ?_
 rw[show(at_:Int)+1=((at_+1:Nat):Int) from by omega]
 exact af (aw rfl) ⟨rfl,rfl⟩ (sub (aJ .nil) aj)
def PN(b:Nat)(p:Option Addr)(cap:Nat)(B:List Int)(R:ad)(hR:∀w0 h,R w0 h→aE U5 p B.length B w0 h)(at_:Nat)(sh:Bool)(n:Nat)(hl:B.length<500000000)(hB:ag.aq B)(hn:n≤24)(ha:at_+n≤8*B.length):aA Tryz.prog 89 [.pointer (soz b),.int .i64 (n:Int)] [ai b 151 [.slice p B.length cap,.int .i64 (at_:Int),.bool true,.bool sh],R] (aF fun v G=>v=.tuple #[.int .i64 (aa.cL B at_ n),.bool true]∧G=[ai b 151 [.slice p B.length cap,.int .i64 ((at_+n:Nat):Int),.bool true,.bool sh],R]):=by
 refine(Wc) ?_
 intro w0 F
 refine(uL) ?_
 refine(QL) ?_
 refine(Q9) ?_
 refine(Q0) ?_
 refine(Qo) ?_
 refine(Qc) ?_
 refine(Q0) ?_
 refine aQ (Rh b p cap B R hR at_ sh hl omg) V.yc rfl (aJ .nil) rfl ?_
 rintro _ _ ⟨rfl,rfl⟩
 refine(Q0)<|(ux)<|(QL)<|(qK) ?_
 rw[show((6:Nat),Value.int .i64 0)=(6,.int .i64 (aa.cL B at_ 0)) from by unfold aa.cL;rfl]
 refine cF (fun(k:Nat)=>[(0,.pointer (soz b)),(1,.int .i64 (n:Int)),(6,.int .i64 (aa.cL B at_ k)),(7,.int .i64 (k:Int))]) (fun(k:Nat)=>ai b 151 [.slice p B.length cap,.int .i64 ((at_+k:Nat):Int),.bool true,.bool sh]::R::F) (fun(k:Nat)=>k≤n) (fun(k:Nat)=>n-k) (i1 (0) ?_ (cK ln) (sub (aJ .nil) aj)) ?_
 ·exact Nat.zero_le _
 intro k
 rintro hk
 refine(nC) ?_
 refine av rfl (fun h25=>?_) (fun h25=>?_)
 ·refine(QJ)<|(nP)<|(Qc) ?_
  have hb:=aa.od B (at_+k)
  have hnb:=aa.tN B at_ (n:=k) omg
  refine(Q5)<|(Q88)<|(Q8) ?_
  refine oC (VV b p cap B R hR (at_+k) sh hl hB omg) V.Aj rfl (aJ .nil) rfl<|(Q89)<|(QU) ?_
  refine j1 (k+1) ?_ (cK ln) (sub (aJ .nil) aj)
  exact⟨omg,omg⟩
 ·refine(oZ) ?_
  obtain rfl:k=n:=omg
  exact af (bR rfl rfl) ⟨rfl,rfl⟩ (sub (aJ .nil) aj)
def kQ(w h ak:Int)(aV:Bool)(d x:Int)(hd:aa.jz d)(hx:0≤x∧x<2^d.toNat):aA Tryz.prog 90 [.agg #[I6 w,I6 h,I6 d,I6 ak,.bool aV],I6 x] [] (aF fun v G=>v=.int .u16 (aa.up d x)∧G=[]):=by
 refine ao [(0,_),(1,_)] Tryz.func90 rfl Tryz.ntmps90 rfl rfl ?_
 intro w0 F
 obtain⟨P,hP⟩:∃P:Int,P=2^d.toNat:=⟨_,rfl⟩
 have hpb:2≤P∧P≤65536:=hP▸aa.lQ hd
 have hdi:=aa.iz hd
 have hxP:x<P:=hP▸hx.2
 have hui:=aa.FD hd hx.1 hx.2
 have hq:=Int.ediv_le_self (P-1) (by decide:(0:Int)≤65535)
 have hq0:0≤65535/(P-1):=Int.ediv_nonneg dec omg
 refine(QK)<|(Tz) ?_
 intro b2
 refine(Qd)<|(Ql)<|(sk)<|(AI)<|(Is)<|(Q8a)<|(Zh)<|(Q7) ?_
 exact af (aw rfl) ⟨rfl,rfl⟩ (sub .nil bg)

def JL(d:Int)(hd:aa.jz d):aA Tryz.prog 185 [I6 d] [] (aF fun v G=>v=.bool true∧G=[]):=by
 refine ao [(0,_)] Tryz.func185 rfl Tryz.ntmps185 rfl rfl ?_
 intro w0 F
 refine(QV) ?_
 rcases(aa.P1 hd) with rfl|⟨q0,rfl⟩|⟨q0,q1,rfl⟩|⟨q0,q1,q2,rfl⟩|⟨q0,q1,q2,q3,rfl⟩
 ·refine(QN)<|(A6)<|(QC) ?_
  exact af (aw rfl) ⟨rfl,rfl⟩ (sub .nil aj)
 ·refine(QN)<|(sv)<|(Q1)<|(A6)<|(QC) ?_
  exact af (aw rfl) ⟨rfl,rfl⟩ (sub .nil aj)
 ·refine(QN)<|(sv)<|(Q1)<|(sv)<|(Q1)<|(A6)<|(QC) ?_
  exact af (aw rfl) ⟨rfl,rfl⟩ (sub .nil aj)
 ·refine(QN)<|(sv)<|(Q1)<|(sv)<|(Q1)<|(sv)<|(Q1)<|(A6)<|(QC) ?_
  exact af (aw rfl) ⟨rfl,rfl⟩ (sub .nil aj)
 ·refine(QN)<|(sv)<|(Q1)<|(sv)<|(Q1)<|(sv)<|(Q1)<|(sv)<|(Q6)<|(A6)<|(Qy) ?_
  exact af (aw rfl) ⟨rfl,rfl⟩ (sub .nil aj)

def T9(d x:Int)(hd:aa.jz d)(hx:0≤x∧x<2^d.toNat):aA Tryz.prog 172 [I6 x,I6 d] [] (aF fun v G=>v=.tuple #[.int .u16 (aa.up d x),.bool true]∧G=[]):=by
 refine ao [(0,_),(1,_)] Tryz.func172 rfl Tryz.ntmps172 rfl rfl ?_
 intro w0 F
 obtain⟨P,hP⟩:∃P:Int,P=2^d.toNat:=⟨_,rfl⟩
 have hpb:2≤P∧P≤65536:=hP▸aa.lQ hd
 have hdi:=aa.iz hd
 have hxP:x<P:=hP▸hx.2
 have hui:=aa.FD hd hx.1 hx.2
 have hq:=Int.ediv_le_self (P-1) (by decide:(0:Int)≤65535)
 have hq0:0≤65535/(P-1):=Int.ediv_nonneg dec omg
 refine(uL) ?_
 refine oC (JL d hd) V.acf rfl .nil rfl<|(Qk)<|(QL)<|(Qu)<|(AI)<|(Q0)<|(qa)<|(Qg)<|(AI)<|(Is)<|(Q8a)<|(Zh)<|(Q6) ?_
 exact af (bR rfl rfl) ⟨rfl,rfl⟩ (sub .nil aj)
def w9(x:Int)(hx:0≤x∧x<256):aA Tryz.prog 184 [.int .u8 x] [] (aF fun v G=>v=.int .u16 (x*257)∧G=[]):=by
 refine ao [(0,_)] Tryz.func184 rfl Tryz.ntmps184 rfl rfl ?_
 intro w0 F
 refine(QQ)<|(mi) ?_
 refine oC (T9 8 x (.inr (.inr (.inr (.inl rfl)))) hx) V.Tc rfl .nil rfl ?_
 rw[aa.up8]
 refine(QE) ?_
 exact af (aw rfl) ⟨rfl,rfl⟩ (sub .nil aj)

def acw(w h:Int)(hs:aa.bD w h=0)(q:Option Addr)(n c:Nat)(hn:(n:Int)=4*w*h)(xx yy:Int)(hx:0≤xx∧xx<w)(hy:0≤yy∧yy<h):aA Tryz.prog 161 [.agg #[I6 w,I6 h,.slice q n c],I6 xx,I6 yy] [] (aF fun v G=>v=.tuple #[I6 (4*(yy*w+xx)),.bool true]∧G=[]):=by
 refine ao [(0,_),(1,_),(2,_)] Tryz.func161 rfl Tryz.ntmps161 rfl rfl ?_
 intro w0 F
 have hsd:=aa.jj hs
 have hp:=aa.qc hx hy
 have h44:4*w*h=4*(w*h):=Int.mul_assoc _ _ _
 refine(uE) ?_
 intro b3
 refine rO TT 6 rfl ?_
 refine oV (bU V.ff rfl ay (vs:=[_,_,_]) rfl rfl) ?_
 refine oC (XJ w h q n c true (decide_eq_true ⟨hs,hn⟩).symm) V.GR rfl .nil rfl ?_
 refine rO TT 2 rfl ?_
 refine bB rfl ?_
 refine oV (bQ (rF rfl rfl) omg) ?_
 refine rO TT 4 rfl ?_
 refine bB rfl ?_
 refine oV (aB V.s3 rfl ay rfl) ?_
 refine bB rfl ?_
 refine oV (bQ (dD rfl rfl) omg) ?_
 refine rO TT 3 rfl ?_
 refine bB rfl ?_
 refine oV (bQ (rF rfl rfl) omg) ?_
 refine rO TT 4 rfl ?_
 refine bB rfl ?_
 refine oV (aB V.s3 rfl ay rfl) ?_
 refine bB rfl ?_
 refine oV (bQ (dD rfl rfl) omg) ?_
 refine rO TT 8 rfl ?_
 refine oV (aB V.s3 rfl ay rfl) ?_
 refine jC TT 10 rfl omg ?_
 exact af (bR rfl rfl) ⟨rfl,rfl⟩ (sub .nil bg)

def X9(w h:Int)(hs:aa.bD w h=0)(q:Option Addr)(n c:Nat)(hn:(n:Int)=4*w*h)(hcap:n≤c)(l:List Int)(xx yy:Int)(hx:0≤xx∧xx<w)(hy:0≤yy∧yy<h)(c0 c1 c2 c3:Int):aA Tryz.prog 152 [.agg #[I6 w,I6 h,.slice q n c],I6 xx,I6 yy,.agg #[.int .u16 c0,.int .u16 c1,.int .u16 c2,.int .u16 c3]] [Row (aK 62 .u16) q n c l] (aF fun v G=>v=.bool true∧G=[Row (aK 62 .u16) q n c (aa.ko w l xx yy [c0,c1,c2,c3])]):=by
 refine ao [(0,_),(1,_),(2,_),(3,_)] Tryz.func152 rfl Tryz.ntmps152 rfl rfl ?_
 intro w0 F
 have hsd:=aa.jj hs
 have hp:=aa.qc hx hy
 have h44:4*w*h=4*(w*h):=Int.mul_assoc _ _ _
 refine(uE) ?_
 intro b4
 refine jg rfl (cs:=CA [] .u16 [c0,c1,c2,c3] []) rfl rfl ?_
 intro b7
 refine(Q6) ?_
 refine(sa) ?_
 refine(Q9) ?_
 refine oC (acw w h hs q n c hn xx yy hx hy) V.ab2 rfl .nil rfl ?_
 refine(QE) ?_
 refine wN [pz 0 [] [4],pz 1 [0] [],pz 0 [] [9],pz 7 [1,2] [],pz 0 [] [7],pz 31 [3,4] []] [⟨fun y=>ai b7 68 (CA [] .u16 [c0,c1,c2,c3] []),none,none,[5]⟩,⟨fun y=>ai b4 26 [I6 w,I6 h,.slice q n c],none,none,[1]⟩,⟨fun y=>Row (aK 62 .u16) q n c l,none,some 5,[]⟩,⟨fun y=>Row (aK 62 .u16) q n c (aa.ko w l xx yy [c0,c1,c2,c3]),some 5,none,[]⟩] F V.mixed ?_
 refine nG V.wU ?_
 refine(NM) ?_
 refine nM ?_
 refine nV (fun y hA L=>dZ ((4*(yy*w+xx))).toNat _ _ V.iJ rfl ⟨_,(show au _ _=some (.int _ (4*(yy*w+xx))) from rfl).trans (by rw[Int.toNat_of_nonneg omg])⟩ ⟨rfl,rfl⟩ rfl omg omg omg) ?_
 refine nV (fun y hA L=>y9 V.lH rfl) ?_
 refine(YW) ?_
 refine(Qi) ?_
 intro y hA
 clear hA
 refine bJ ?_
 refine bW _ (.cons (d:=10) rfl (.nil _)) ?_
 refine bA (M:=ai b7 68 (CA [] .u16 [c0,c1,c2,c3] [])::ai b4 26 [I6 w,I6 h,.slice q n c]::Row (aK 62 .u16) q n c (aa.ko w l xx yy [c0,c1,c2,c3])::F) (fun _ _ h=>h) ?_
 refine rC TT 7 rfl ?_
 exact af (aw rfl) ⟨rfl,rfl⟩ (sub (.cons aL .nil) dC)

def YO(w h:Int)(hs:aa.bD w h=0)(q:Option Addr)(n c:Nat)(hn:(n:Int)=4*w*h)(hcap:n≤c)(l:List Int)(xx yy:Int)(hx:0≤xx∧xx<w)(hy:0≤yy∧yy<h)(c0 c1 c2 c3:Int):aA Tryz.prog 53 [.agg #[I6 w,I6 h,.slice q n c],I6 xx,I6 yy,.agg #[.int .u16 c0,.int .u16 c1,.int .u16 c2,.int .u16 c3]] [Row (aK 62 .u16) q n c l] (aF fun v G=>v=.bool true∧G=[Row (aK 62 .u16) q n c (aa.ko w l xx yy [c0,c1,c2,c3])]):=by
 refine ao [(0,_),(1,_),(2,_),(3,_)] Tryz.func53 rfl Tryz.ntmps53 rfl rfl ?_
 intro w0 F
 have hsd:=aa.jj hs
 have hp:=aa.qc hx hy
 have h44:4*w*h=4*(w*h):=Int.mul_assoc _ _ _
 refine(uE) ?_
 intro b4
 refine jg rfl (cs:=CA [] .u16 [c0,c1,c2,c3] []) rfl rfl ?_
 intro b7
 refine(Q1) ?_
 refine(sa) ?_
 refine oC (wD w h q n c true (decide_eq_true ⟨hs,hn⟩).symm) V.kM rfl .nil rfl ?_
 refine(Qc) ?_
 refine(Q0) ?_
 refine(QL) ?_
 refine(Qc) ?_
 refine(Q0) ?_
 refine(QL) ?_
 refine(Q7) ?_
 refine(Q0) ?_
 refine(QW) ?_
 refine(Q0) ?_
 refine(qa) ?_
 refine(Q7) ?_
 refine(Q0) ?_
 refine(QW) ?_
 refine(Q0) ?_
 refine(qa) ?_
 refine(Qd) ?_
 refine wN [pz 0 [] [4],pz 1 [0] [],pz 0 [] [2],pz 0 [] [4],pz 8 [3] [],pz 28 [2,4] [],pz 0 [] [1],pz 124 [5,6] [],pz 252 [7] [],pz 0 [] [2],pz 0 [] [4],pz 1024 [10] [],pz 3584 [9,11] [],pz 0 [] [1],pz 15872 [12,13] [],pz 32256 [14] [],pz 65024 [15] [],pz 131071 [1,8,16] [],pz 0 [] [7],pz 524287 [17,18] []] [⟨fun y=>ai b7 68 (CA [] .u16 [c0,c1,c2,c3] []),none,none,[19]⟩,⟨fun y=>ai b4 26 [I6 w,I6 h,.slice q n c],none,none,[1,4,11]⟩,⟨fun y=>Row (aK 62 .u16) q n c l,none,some 19,[]⟩,⟨fun y=>Row (aK 62 .u16) q n c (aa.ko w l xx yy [c0,c1,c2,c3]),some 19,none,[]⟩] F V.mixed ?_
 refine nG V.wU ?_
 refine(NM) ?_
 refine nM ?_
 refine nG V.E4 ?_
 refine(Qz) ?_
 refine(w4) ?_
 refine nM ?_
 refine(Qv) ?_
 refine(w4) ?_
 refine nM ?_
 refine nG V.E4 ?_
 refine(Qz) ?_
 refine(w4) ?_
 refine nM ?_
 refine(Qv) ?_
 refine(w4) ?_
 refine(Qv) ?_
 refine nV (fun y hA L=>dZ ((4*((yy*w)+xx))).toNat (((4*((yy*w)+xx))+4)).toNat _ V.iJ rfl ⟨_,(show au _ _=some (.int _ (4*((yy*w)+xx))) from rfl).trans (by rw[Int.toNat_of_nonneg omg])⟩ ⟨_,(show au _ _=some (.int _ ((4*((yy*w)+xx))+4)) from rfl).trans (by rw[Int.toNat_of_nonneg omg])⟩ rfl omg omg omg) ?_
 refine nV (fun y hA L=>y9 V.lH rfl) ?_
 refine(YW) ?_
 refine(Qi) ?_
 intro y hA
 clear hA
 refine bJ ?_
 refine bW _ (.nil _) ?_
 refine bA (M:=ai b7 68 (CA [] .u16 [c0,c1,c2,c3] [])::ai b4 26 [I6 w,I6 h,.slice q n c]::Row (aK 62 .u16) q n c (aa.ko w l xx yy [c0,c1,c2,c3])::F) (fun _ _ h=>h) ?_
 refine rC TT 6 rfl ?_
 exact af (aw rfl) ⟨rfl,rfl⟩ (sub (.cons aL .nil) dC)
end Go.Proofs.YtmaiakpjgomnpaaGreat
namespace Go.Proofs.YtmaiakpjgomnpaaGreat
open Go.Sl
def V.qk:gR Tryz.prog 35=some 5:=by kernel_rfl
def V.iy:gR Tryz.prog 38=some 5:=by kernel_rfl
def V.jQ:gR Tryz.prog 68=some 4:=by kernel_rfl
def V.nU:az Tryz.prog 20=true:=by kernel_rfl
def V.Oa:az Tryz.prog 54=true:=by kernel_rfl
def V.b55:az Tryz.prog 55=true:=by kernel_rfl
def V.vQ:az Tryz.prog 56=true:=by kernel_rfl
def V.b57:az Tryz.prog 57=true:=by kernel_rfl
def V.yN:az Tryz.prog 59=true:=by kernel_rfl
def V.E8:bo Tryz.prog 35 0=some 0:=by kernel_rfl
def V.vI:bo Tryz.prog 35 1=some 1:=by kernel_rfl
def V.zL:bo Tryz.prog 35 2=some 2:=by kernel_rfl
def V.tL:bo Tryz.prog 35 3=some 3:=by kernel_rfl
def V.aeL:bo Tryz.prog 35 4=some 4:=by kernel_rfl
def V.aeG:bo Tryz.prog 38 0=some 0:=by kernel_rfl
def V.XA:bo Tryz.prog 38 1=some 1:=by kernel_rfl
def V.X5:bo Tryz.prog 38 3=some 3:=by kernel_rfl
def V.Si:eQ Tryz.prog 35=some [(0,1),(1,1),(2,1),(3,1),(4,1)]:=by kernel_rfl
def V.Fo:eQ Tryz.prog 38=some [(0,1),(1,1),(2,1),(3,1),(4,1)]:=by kernel_rfl
def V.V3:da Tryz.prog 105=true:=by kernel_rfl
def V.nH:da Tryz.prog 62=true:=by kernel_rfl
def V.z105:cW Tryz.prog 105=some ([.pointer none]):=by kernel_rfl
def V.zc:cW Tryz.prog 35=some ([.int .i64 0,.int .i64 0,.int .i64 0,.int .i64 0,.bool false]):=by kernel_rfl
def V.uF:cW Tryz.prog 38=some ([.int .i64 0,.int .i64 0,.int .i64 0,.int .i64 0,.bool false]):=by kernel_rfl
def V.oY:cW Tryz.prog 68=some ([.int .u16 0,.int .u16 0,.int .u16 0,.int .u16 0]):=by kernel_rfl
end Go.Proofs.YtmaiakpjgomnpaaGreat

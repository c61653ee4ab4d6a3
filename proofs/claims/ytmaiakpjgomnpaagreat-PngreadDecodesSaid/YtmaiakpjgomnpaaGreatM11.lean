/- Walks of functions that the law reaches, and what they lean on; no conditions. -/
import Derived.Test.YtmaiakpjgomnpaaGreatM10
set_option linter.defProp false
set_option maxHeartbeats 16000000
set_option maxRecDepth 100000
set_option linter.unusedVariables false
set_option linter.unusedSimpArgs false
set_option maxRecDepth 100000
namespace Go.Proofs.YtmaiakpjgomnpaaGreat
open Go.Sl 
attribute [local irreducible] ag.aq aN.jA aN.iX ab.gg ab.gj aC.fU aC.kh aa.cP aa.cD aa.iI aa.gQ aa.aW aa.aY aa.bM aa.fx aa.dp aa.dg aa.fH aa.two aa.hB aa.jG aa.lg aa.nm aa.parts

def JN(p:Option Addr)(c:Nat)(B:List Int)(R:ad)(hR:∀w0 h,R w0 h→aE U5 p B.length B w0 h)(hl:B.length≤4194304)(hcap:B.length≤c):aA Tryz.prog 62 [.slice p B.length c] [R] (aF fun v G=>∃q cq,v=.slice q (aN.iX B).length cq∧G=[Row U5 q (aN.iX B).length cq (aN.iX B),R]):=by
 refine ao [(0,_)] Tryz.func62 rfl Tryz.ntmps62 rfl rfl ?_
 intro w0 F
 refine rT TT 12 rfl<|(wc) ?_
 refine Dg (fun(f:Nat) (pz:Option Addr) (cz:Nat) (Z:List Int) (po:Option Addr) (co:Nat) (O:List Int)=>[(0,.slice pz Z.length cz),(3,.slice po O.length co)]) (fun(f:Nat) (pz:Option Addr) (cz:Nat) (Z:List Int) (po:Option Addr) (co:Nat) (O:List Int)=>Row U5 po O.length co O::R::F) (fun(f:Nat) (pz:Option Addr) (cz:Nat) (Z:List Int) (po:Option Addr) (co:Nat) (O:List Int)=>O++ab.gg (aN.jA f Z)=aN.iX B∧Z.length≤65535*(f+1)∧(∀w0 h,R w0 h→aE U5 pz Z.length Z w0 h)∧Z.length≤cz∧O.length+Z.length≤2*B.length+5*(65-f)∧f≤64) (fun(f:Nat) (pz:Option Addr) (cz:Nat) (Z:List Int) (po:Option Addr) (co:Nat) (O:List Int)=>f) (i7 (64) (p) (c) (B) (none) (0) ([]) ?_ (fF ln) (sub (aJ .nil) aj)) ?_
 ·exact⟨aN.VL B,omg,hR,hcap,by simp;omega,omg⟩
 intro f pz cz Z po co O
 rintro⟨hO,hZf,hZR,hZc,hOl,hf⟩
 refine rL TT 1 rfl ?_
 rcases(Nat.lt_or_ge 65535 Z.length) with hZ|hZ
 ·refine(Q4) ?_
  refine oV (cn (v:=I6 65535) (Mh rfl rfl) (by rw[if_pos omg]))<|(QE)<|(QA)<|(Qg) ?_
  refine oV (cS V.u3 Tryz.underlying5 rfl (ag.gU (65535:Int)))<|(Q8) ?_
  refine oV (eF (r:=(65535:Int)/256) rfl rfl omg (ag.pL (k:=8) dec rfl))<|(sb)<|(Q8)<|(Q8C) ?_
  refine oV (cS V.u3 Tryz.underlying5 rfl ((ag.gU _).trans (show(-(65535:Int)-1)%256=255-(65535:Int)%256 from by omega)))<|(Q8)<|(Q8C) ?_
  refine oV (eF (r:=(-(65535:Int)-1)/256) rfl rfl omg (ag.pL (k:=8) dec rfl))<|oV (cS V.u3 Tryz.underlying5 rfl ((ag.gU _).trans (show((-(65535:Int)-1)/256)%256=255-(65535:Int)/256 from by omega)))<|cg (U5) [0,(65535:Int)%256,(65535:Int)/256,255-(65535:Int)%256,255-(65535:Int)/256] V.bT V.z5 rfl rfl rfl rfl rfl rfl ?_
  intro MR
  refine(G0) ?_
  intro p28 c28
  refine(Q7) ?_
  have hPR:∀w0 h,R w0 h→aE U5 pz 65535 (Z.take 65535) w0 h:=jo (cap:=0) hZR 65535 omg
  refine(Q4) ?_
  refine oV (iO 65535 cz V.bT rfl ⟨_,rfl⟩ rfl omg omg)<|ei (c:=(U5)) V.bT V.z5 rfl rfl rfl rfl dJ (by exact bK hPR dz) omg rfl ?_
  intro p33 c33
  refine(Qd) ?_
  refine oV (dZ 65535 Z.length cz V.bT rfl ⟨_,rfl⟩ ⟨rfl,rfl⟩ rfl omg omg omg)<|(Q1)<|(sv)<|(Q6) ?_
  obtain⟨f,rfl⟩:∃f2,f=f2+1:=⟨f-1,omg⟩
  have hnx:=aN.Kr hO hZ
  have hle:(O++[0,(65535:Int)%256,(65535:Int)/256,255-(65535:Int)%256,255-(65535:Int)/256]++Z.take 65535).length=O.length+5+65535:=by simp;omega
  have hdl:(Z.drop 65535).length=Z.length-65535:=List.length_drop
  rw[←hdl,←hle]
  exact j7 f _ _ (Z.drop 65535) _ _ _ ⟨⟨hnx,omg,by rw[hdl];exact eB hZR rfl 65535 cz omg hZc,omg,omg,omg⟩,omg⟩ (.cons rfl (.cons rfl (.nil _))) (sub (.cons dJ (.cons ar .nil)) bg)
 ·refine(Q4) ?_
  refine oV (cn (v:=I6 (Z.length:Int)) (Mh rfl rfl) (by rw[if_neg omg]))<|(QE)<|(QD)<|(Qy) ?_
  refine oV (cS V.u3 Tryz.underlying5 rfl (ag.gU (Z.length:Int)))<|(Q8) ?_
  refine oV (eF (r:=(Z.length:Int)/256) rfl rfl omg (ag.pL (k:=8) dec rfl))<|(sb)<|(Q8)<|(Q8D) ?_
  refine oV (cS V.u3 Tryz.underlying5 rfl ((ag.gU _).trans (show(-(Z.length:Int)-1)%256=255-(Z.length:Int)%256 from by omega)))<|(Q8)<|(Q8D) ?_
  refine oV (eF (r:=(-(Z.length:Int)-1)/256) rfl rfl omg (ag.pL (k:=8) dec rfl))<|oV (cS V.u3 Tryz.underlying5 rfl ((ag.gU _).trans (show((-(Z.length:Int)-1)/256)%256=255-(Z.length:Int)/256 from by omega)))<|cg (U5) [1,(Z.length:Int)%256,(Z.length:Int)/256,255-(Z.length:Int)%256,255-(Z.length:Int)/256] V.bT V.z5 rfl rfl rfl rfl rfl rfl ?_
  intro MR
  refine(G0) ?_
  intro p28 c28
  refine(Qe) ?_
  refine oV (iO Z.length cz V.bT rfl ⟨_,rfl⟩ rfl omg omg)<|ei (c:=(U5)) V.bT V.z5 rfl rfl rfl rfl dJ (by exact bK hZR dz) omg rfl ?_
  intro p33 c33
  refine(Qd) ?_
  refine oV (dZ Z.length Z.length cz V.bT rfl ⟨_,rfl⟩ ⟨rfl,rfl⟩ rfl omg omg omg)<|(Q1)<|(A6)<|(QC) ?_
  have hnx:=aN.Kc hO omg
  have hle:(O++[1,(Z.length:Int)%256,(Z.length:Int)/256,255-(Z.length:Int)%256,255-(Z.length:Int)/256]++Z).length=O.length+5+Z.length:=by simp;omega
  rw[hnx] at hle
  rw[←hle,hnx]
  exact af (aw rfl) ⟨_,_,rfl,rfl⟩ (sub (an (.cons ar .nil)) bg)

def Rm(p:Option Addr)(c:Nat)(B:List Int)(R:ad)(hR:∀w0 h,R w0 h→aE U5 p B.length B w0 h)(hl:B.length≤4194304)(hB:ag.aq B)(hcap:B.length≤c):aA Tryz.prog 27 [.slice p B.length c] [R] (aF fun v G=>∃q cq,v=.slice q (aa.cP B).length cq∧G=[Row U5 q (aa.cP B).length cq (aa.cP B),R]):=by
 refine ao [(0,_)] Tryz.func27 rfl Tryz.ntmps27 rfl rfl ?_
 intro w0 F
 have hsl:=aN.yq hl
 have ha:=aC.xh B
 refine rT TT 7 rfl<|cg (U5) [120,1] V.bT V.z5 rfl rfl rfl rfl rfl rfl ?_
 intro b5
 refine(Q8) ?_
 refine aQ (JN p c B R hR hl hcap) V.b62 rfl (.cons ar .nil) rfl ?_
 rintro _ _ ⟨qz,cz,rfl,rfl⟩
 refine(SU) ?_
 intro p8 c8
 refine(Q1) ?_
 refine oC (Jv p c B R hR omg hB) V.NA rfl (.cons aL .nil) rfl<|(Qd) ?_
 refine oV (eF (r:=(aC.fU B)/16777216) rfl rfl dec (aa.ob (n:=24) rfl dec rfl))<|oV (cS V.D3 Tryz.underlying5 rfl ((aa.gU _).trans (by omega:(aC.fU B)/16777216%256=(aC.fU B)/16777216)))<|(Q8) ?_
 refine oV (eF (r:=(aC.fU B)/65536) rfl rfl dec (aa.ob (n:=16) rfl dec rfl))<|(zq)<|(Q8) ?_
 refine oV (eF (r:=(aC.fU B)/256) rfl rfl dec (aa.ob (n:=8) rfl dec rfl))<|(zq)<|(Q8)<|(zq) ?_
 refine cg (U5) [(aC.fU B)/16777216,(aC.fU B)/65536%256,(aC.fU B)/256%256,(aC.fU B)%256] V.bT V.z5 rfl rfl rfl rfl rfl rfl ?_
 intro gk
 refine(SU) ?_
 intro p24 c24
 refine(Q7) ?_
 have hle:2+(aN.iX B).length+4=(aa.cP B).length:=by rw[aa.tE hl];omega
 rw[hle,show [120,1]++aN.iX B++[(aC.fU B)/16777216,(aC.fU B)/65536%256,(aC.fU B)/256%256,(aC.fU B)%256]=aa.cP B from by unfold aa.cP aC.kh;rfl]
 exact af (aw rfl) ⟨_,_,rfl,rfl⟩ (sub (an (.cons ar .nil)) dC)

def Rx(p:Option Addr)(c:Nat)(es:List Ce)(R:ad)(hR:∀w0 h,R w0 h→aE aP p es.length es w0 h)(D:ad)(hD:∀x∈es,∀w0 h,D w0 h→aE U5 x.p x.d.length x.d w0 h)(hel:es.length≤262144)(hok:∀x∈es,aa.nm x.ch)(hj:(aa.cD (es.map Ce.ch)).length≤262144):aA Tryz.prog 28 [.slice p es.length c] [R,D] (aF fun v G=>∃q cq,v=.tuple #[.slice q (aa.cD (es.map Ce.ch)).length cq,I6 0]∧G=[Row U5 q (aa.cD (es.map Ce.ch)).length cq (aa.cD (es.map Ce.ch)),R,D]):=by
 refine ao [(0,_)] Tryz.func28 rfl Tryz.ntmps28 rfl rfl ?_
 intro w0 F
 refine(QQ) ?_
 refine oC (Jf) V.ZL rfl .nil rfl<|Bg Tryz.underlying9 Tryz.underlying22 Tryz.underlying5 rfl (aa.aT aa.rW) rfl ?_
 intro b10 c10
 refine(QC) ?_
 rw[show aa.fx=aa.cD ((es.map Ce.ch).take 0) from(aa.Wa _).symm]
 refine dP (fun(i:Nat) (po:Option Addr) (co:Nat)=>[(0,.slice p es.length c),(4,.slice po (aa.cD ((es.map Ce.ch).take i)).length co),(5,.bool false),(6,I6 (i:Int))]) (fun(i:Nat) (po:Option Addr) (co:Nat)=>Row U5 po (aa.cD ((es.map Ce.ch).take i)).length co (aa.cD ((es.map Ce.ch).take i))::R::D::F) (fun(i:Nat) (po:Option Addr) (co:Nat)=>i≤es.length) (fun(i:Nat) (po:Option Addr) (co:Nat)=>es.length-i) (i3 (0) (_) (_) ?_ (cK ln) (sub (dV .nil) aj)) ?_
 ·exact Nat.zero_le _
 intro i po co
 rintro hi
 refine(pe) ?_
 refine av rfl (fun h14=>?_) (fun h14=>?_)
 ·refine(Qf) ?_
  have hcx:=nz (es:=es) (i:=i) omg
  have hxm:=jl (i:=i) (fun x=>x∈es) (fun x hx=>hx) omg
  have hxo:=hok _ hxm
  unfold aa.nm at hxo
  have hxn:aa.dp (aP.g es (i:Int)).k:=hxo.1
  have hxk:ag.aq (aP.g es (i:Int)).k:=aa.oo hxn
  have hxl:=aa.Ew hxn
  have hxB:ag.aq (aP.g es (i:Int)).d:=hxo.2.1
  have hjs:=aa.SX hcx
  have hjl:=aa.join_le (es.map Ce.ch) (i+1)
  have hjl2:(aa.cD ((es.map Ce.ch).take (i+1))).length=(aa.cD ((es.map Ce.ch).take i)).length+(aa.iI (aP.g es (i:Int)).ch).length:=by rw[hjs,List.length_append]
  have hcb:(aa.iI (aP.g es (i:Int)).ch).length=4+(aP.g es (i:Int)).k.length+(aP.g es (i:Int)).d.length+4:=aa.K5 _
  refine(Q3) ?_
  refine oV (xI V.nL (by exact bK hR cX))<|(qu) ?_
  refine oV (fE (c:=(aP)) 0 V.s9 rfl (by exact bK hR cX) omg omg rfl rfl)<|oC (kz (aP.g es (i:Int)).k hxk omg true (decide_eq_true hxn).symm) V.BG rfl .nil rfl<|(Qg) ?_
  refine oV (xI V.nL (by exact bK hR cX))<|(sY) ?_
  refine oV (fE (c:=(aP)) 1 V.kO rfl (by exact bK hR cX) omg omg rfl rfl)<|(Qn)<|(Ai)<|(Qu)<|(Qo)<|(rZ) ?_
  refine oV (eF (r:=((aP.g es (i:Int)).d.length:Int)/16777216) rfl rfl dec (ag.pL (k:=24) dec rfl))<|(C1)<|(Q8) ?_
  refine oV (eF (r:=((aP.g es (i:Int)).d.length:Int)/65536) rfl rfl dec (ag.pL (k:=16) dec rfl))<|(C1)<|(Q8) ?_
  refine oV (eF (r:=((aP.g es (i:Int)).d.length:Int)/256) rfl rfl dec (ag.pL (k:=8) dec rfl))<|(C1) ?_
  refine(Q8)<|(C1) ?_
  refine cg (U5) [((aP.g es (i:Int)).d.length:Int)/16777216%256,((aP.g es (i:Int)).d.length:Int)/65536%256,((aP.g es (i:Int)).d.length:Int)/256%256,((aP.g es (i:Int)).d.length:Int)%256] V.bT V.z5 rfl rfl rfl rfl rfl rfl ?_
  intro NQ
  refine(G0) ?_
  intro p54 c54
  refine(Q7) ?_
  refine jE [pz 0 [] [4],pz 0 [] [0],pz 0 [] [6],pz 6 [1,2] [],pz 14 [3] [],pz 30 [4] [],pz 63 [0,5] [],pz 0 [] [0],pz 0 [] [6],pz 384 [7,8] [],pz 896 [9] [],pz 1920 [10] [],pz 4095 [6,11] [],pz 8191 [12] []] [⟨fun y=>Row U5 p54 ((aa.cD ((es.map Ce.ch).take i)).length+4) c54 ((aa.cD ((es.map Ce.ch).take i))++[((aP.g es (i:Int)).d.length:Int)/16777216%256,((aP.g es (i:Int)).d.length:Int)/65536%256,((aP.g es (i:Int)).d.length:Int)/256%256,((aP.g es (i:Int)).d.length:Int)%256]),none,some 6,[]⟩,⟨fun y=>Row U5 (soz NQ) 4 4 [((aP.g es (i:Int)).d.length:Int)/16777216%256,((aP.g es (i:Int)).d.length:Int)/65536%256,((aP.g es (i:Int)).d.length:Int)/256%256,((aP.g es (i:Int)).d.length:Int)%256],none,none,[]⟩,⟨fun y=>R,none,none,[3,5,9,11]⟩,⟨fun y=>D,none,none,[12]⟩,⟨fun y=>Row (U5) (ej (y 6)) (((aa.cD ((es.map Ce.ch).take i)).length+4)+((aP.g es (i:Int)).k).length) (fT (y 6)) (((aa.cD ((es.map Ce.ch).take i))++[((aP.g es (i:Int)).d.length:Int)/16777216%256,((aP.g es (i:Int)).d.length:Int)/65536%256,((aP.g es (i:Int)).d.length:Int)/256%256,((aP.g es (i:Int)).d.length:Int)%256])++((aP.g es (i:Int)).k)),some 6,some 12,[]⟩,⟨fun y=>Row (U5) (ej (y 12)) ((((aa.cD ((es.map Ce.ch).take i)).length+4)+((aP.g es (i:Int)).k).length)+(aP.g es (i:Int)).d.length) (fT (y 12)) ((((aa.cD ((es.map Ce.ch).take i))++[((aP.g es (i:Int)).d.length:Int)/16777216%256,((aP.g es (i:Int)).d.length:Int)/65536%256,((aP.g es (i:Int)).d.length:Int)/256%256,((aP.g es (i:Int)).d.length:Int)%256])++((aP.g es (i:Int)).k))++(aP.g es (i:Int)).d),some 12,none,[]⟩] F V.mixed (by kernel_rfl) rfl (fun _=>.refl _) (aU _ (aU _ (aU _ (aU _ (dq _ rfl (by intro y y2 h;simp only[h 6 (.inl rfl)]) (dq _ rfl (by intro y y2 h;simp only[h 12 (.inl rfl)]) fw)))))) ?_
  iterate 3 refine nM ?_
  refine(SV) ?_
  refine nG V.Fh ?_
  refine(Z0) ?_
  refine fh (fun y v=>.slice (ej v) (((aa.cD ((es.map Ce.ch).take i)).length+4)+((aP.g es (i:Int)).k).length) (fT v)) (fun y v=>True) _ _ (fun y v=>[Row (U5) (ej v) (((aa.cD ((es.map Ce.ch).take i)).length+4)+((aP.g es (i:Int)).k).length) (fT v) (((aa.cD ((es.map Ce.ch).take i))++[((aP.g es (i:Int)).d.length:Int)/16777216%256,((aP.g es (i:Int)).d.length:Int)/65536%256,((aP.g es (i:Int)).d.length:Int)/256%256,((aP.g es (i:Int)).d.length:Int)%256])++((aP.g es (i:Int)).k))]) _ (fun y=>rfl) (fun y=>rfl) (fun y=>rfl) (fun y=>rfl) (fun y FF hA=>uj (FP (T:=5) V.bT Tryz.underlying9 V.z5 rfl rfl rfl (aa.aT hxk) dJ omg) (.refl _)) (by intros;rfl) (by intros;rfl) (by intros;rfl) (by intro y y2 h;simp only[h 6 (.inl rfl)]) (by intro y y2 h;rfl) ?_
  iterate 2 refine nM ?_
  refine(SV) ?_
  refine nG V.E9 ?_
  refine(Q8F) ?_
  refine fh (fun y v=>.slice (ej v) ((((aa.cD ((es.map Ce.ch).take i)).length+4)+((aP.g es (i:Int)).k).length)+(aP.g es (i:Int)).d.length) (fT v)) (fun y v=>True) _ _ (fun y v=>[Row (U5) (ej v) ((((aa.cD ((es.map Ce.ch).take i)).length+4)+((aP.g es (i:Int)).k).length)+(aP.g es (i:Int)).d.length) (fT v) ((((aa.cD ((es.map Ce.ch).take i))++[((aP.g es (i:Int)).d.length:Int)/16777216%256,((aP.g es (i:Int)).d.length:Int)/65536%256,((aP.g es (i:Int)).d.length:Int)/256%256,((aP.g es (i:Int)).d.length:Int)%256])++((aP.g es (i:Int)).k))++(aP.g es (i:Int)).d)]) _ (fun y=>rfl) (fun y=>rfl) (fun y=>rfl) (fun y=>rfl) (fun y FF hA=>uj (pI (c:=(U5)) V.bT V.z5 rfl rfl rfl rfl dJ ⟨D,by exact cX,fun h hh=>hD _ hxm _ h hh⟩ omg) (.refl _)) (by intros;rfl) (by intros;rfl) (by intros;rfl) (by intro y y2 h;simp only[h 6 (.inr dec),h 12 (.inl rfl)]) (by intro y y2 h;rfl) ?_
  refine dv _ (fun y=>rfl) rfl rfl rfl (fun y hA L=>dm (jZ rfl) ⟨rfl,rfl⟩) (by intros;rfl) (by intro y y2 h;simp only[h 12 (.inr dec)]) ?_
  refine(Qi) ?_
  intro y hA
  clear hA
  refine bJ<|(Q6Q) ?_
  refine bA (M:=Row U5 (soz NQ) 4 4 [((aP.g es (i:Int)).d.length:Int)/16777216%256,((aP.g es (i:Int)).d.length:Int)/65536%256,((aP.g es (i:Int)).d.length:Int)/256%256,((aP.g es (i:Int)).d.length:Int)%256]::R::D::Row (U5) (ej (y 12)) ((((aa.cD ((es.map Ce.ch).take i)).length+4)+((aP.g es (i:Int)).k).length)+(aP.g es (i:Int)).d.length) (fT (y 12)) ((((aa.cD ((es.map Ce.ch).take i))++[((aP.g es (i:Int)).d.length:Int)/16777216%256,((aP.g es (i:Int)).d.length:Int)/65536%256,((aP.g es (i:Int)).d.length:Int)/256%256,((aP.g es (i:Int)).d.length:Int)%256])++((aP.g es (i:Int)).k))++(aP.g es (i:Int)).d)::F) (fun _ _ h=>h)<|bA (sub .nil (.skip (.keep (.keep (.keep .refl))))) ?_
  simp only[List.nil_append]
  generalize(ej (y 6))=p61
  generalize(fT (y 6))=c61
  generalize(ej (y 12))=p67
  generalize(fT (y 12))=c67
  refine(Qa) ?_
  refine wN [pz 0 [] [0],pz 0 [] [6],pz 3 [0,1] [],pz 7 [2] [],pz 15 [3] [],pz 0 [] [0],pz 0 [] [6],pz 96 [5,6] [],pz 224 [7] [],pz 480 [8] [],pz 1023 [4,9] [],pz 2047 [10] []] [⟨fun y=>R,none,none,[2,4,7,9]⟩,⟨fun y=>D,none,none,[10]⟩,⟨fun y=>Row U5 p67 ((aa.cD ((es.map Ce.ch).take i)).length+4+(aP.g es (i:Int)).k.length+(aP.g es (i:Int)).d.length) c67 ((aa.cD ((es.map Ce.ch).take i))++[((aP.g es (i:Int)).d.length:Int)/16777216%256,((aP.g es (i:Int)).d.length:Int)/65536%256,((aP.g es (i:Int)).d.length:Int)/256%256,((aP.g es (i:Int)).d.length:Int)%256]++(aP.g es (i:Int)).k++(aP.g es (i:Int)).d),none,none,[]⟩] F V.mixed ?_
  iterate 2 refine nM ?_
  refine(SV) ?_
  refine nG V.Fh ?_
  refine(Z0) ?_
  iterate 2 refine nM ?_
  refine nR (fun y FF hA=>xI V.nL (by exact bK hR ay)) ?_
  refine nG V.E9 ?_
  refine nR (fun y FF hA=>fE (c:=(aP)) 1 V.kO rfl (by exact bK hR ay) omg omg rfl rfl) ?_
  refine nE (fun y FF hA=>aO (Post:=[D]) (Lo (aP.g es (i:Int)).k hxk omg (aP.g es (i:Int)).p (aP.g es (i:Int)).c (aP.g es (i:Int)).d.length (aP.g es (i:Int)).d D (hD _ hxm) rfl omg hxB) V.ZU rfl (an .nil) (fun v G h=>by rcases h with⟨rfl,rfl⟩;exact⟨rfl,.refl _⟩)) ?_
  refine nA ?_
  refine cZ ?_
  intro y hA
  clear hA
  refine bJ<|bW _ (.cons (d:=0) rfl (.cons (d:=4) rfl (.cons (d:=5) rfl (.cons (d:=6) rfl (.cons (d:=8) rfl (.nil _))))))<|bA (M:=R::D::Row U5 p67 ((aa.cD ((es.map Ce.ch).take i)).length+4+(aP.g es (i:Int)).k.length+(aP.g es (i:Int)).d.length) c67 ((aa.cD ((es.map Ce.ch).take i))++[((aP.g es (i:Int)).d.length:Int)/16777216%256,((aP.g es (i:Int)).d.length:Int)/65536%256,((aP.g es (i:Int)).d.length:Int)/256%256,((aP.g es (i:Int)).d.length:Int)%256]++(aP.g es (i:Int)).k++(aP.g es (i:Int)).d)::F) (fun _ _ h=>h)<|(Q3) ?_
  refine oV (eF (r:=(aa.gQ (aP.g es (i:Int)).k (aP.g es (i:Int)).d)/16777216) rfl rfl dec (aa.ob (n:=24) rfl dec rfl))<|(zq)<|(Q8) ?_
  refine oV (eF (r:=(aa.gQ (aP.g es (i:Int)).k (aP.g es (i:Int)).d)/65536) rfl rfl dec (aa.ob (n:=16) rfl dec rfl))<|(zq)<|(Q8) ?_
  refine oV (eF (r:=(aa.gQ (aP.g es (i:Int)).k (aP.g es (i:Int)).d)/256) rfl rfl dec (aa.ob (n:=8) rfl dec rfl))<|(zq)<|(Q8)<|(zq) ?_
  refine cg (U5) [(aa.gQ (aP.g es (i:Int)).k (aP.g es (i:Int)).d)/16777216%256,(aa.gQ (aP.g es (i:Int)).k (aP.g es (i:Int)).d)/65536%256,(aa.gQ (aP.g es (i:Int)).k (aP.g es (i:Int)).d)/256%256,(aa.gQ (aP.g es (i:Int)).k (aP.g es (i:Int)).d)%256] V.bT V.z5 rfl rfl rfl rfl rfl rfl ?_
  intro EH
  refine(Zw) ?_
  intro p92 c92
  refine(QU) ?_
  have hfin:=aa.Vf (J:=(aa.cD ((es.map Ce.ch).take i))) (k:=(aP.g es (i:Int)).k) (d:=(aP.g es (i:Int)).d) (n:=((aP.g es (i:Int)).d.length:Int)) (s:=(aa.gQ (aP.g es (i:Int)).k (aP.g es (i:Int)).d)) rfl rfl
  rw[show(aa.Ch.mk (aP.g es (i:Int)).k (aP.g es (i:Int)).d)=(aP.g es (i:Int)).ch from rfl,←hjs] at hfin
  rw[hfin,show(aa.cD ((es.map Ce.ch).take i)).length+4+(aP.g es (i:Int)).k.length+(aP.g es (i:Int)).d.length+4=(aa.cD ((es.map Ce.ch).take (i+1))).length from by omega]
  exact j3 (i+1) _ _ ⟨omg,omg⟩ (cK ln) (sub (an (.cons ar (.cons ar .nil))) bg)
 ·refine(Qr) ?_
  obtain rfl:i=es.length:=omg
  rw[show(es.map Ce.ch).take es.length=(es.map Ce.ch) from List.take_of_length_le (by rw[List.length_map];exact Nat.le_refl _)]
  refine(Qb)<|(Ai)<|(QE) ?_
  exact af (bR rfl rfl) ⟨_,_,rfl,rfl⟩ (sub (dV .nil) aj)
def WU(p:Option Addr)(c:Nat)(es:List Ce)(R:ad)(hR:∀w0 h,R w0 h→aE aP p es.length es w0 h)(hel:es.length≤262144)(hok:∀x∈es,aa.nm x.ch)(hj:(aa.cD (es.map Ce.ch)).length≤262144):aA Tryz.prog 28 [.slice p es.length c] [R,DK es] (aF fun v G=>∃q cq,v=.tuple #[.slice q (aa.cD (es.map Ce.ch)).length cq,I6 0]∧G=[Row U5 q (aa.cD (es.map Ce.ch)).length cq (aa.cD (es.map Ce.ch)),R,DK es]):=Rx p c es R hR (DK es) (fun x hx w0 h hh=>(hh x hx).rd) hel hok hj
end Go.Proofs.YtmaiakpjgomnpaaGreat
namespace Go.Proofs.YtmaiakpjgomnpaaGreat
open Go.Sl
def V.gk:az Tryz.prog 23=true:=by kernel_rfl
def V.MR:az Tryz.prog 27=true:=by kernel_rfl
def V.Uw:az Tryz.prog 28=true:=by kernel_rfl
def V.ZG:iY Tryz.prog 62=true:=by kernel_rfl
end Go.Proofs.YtmaiakpjgomnpaaGreat
namespace Go.Proofs.YtmaiakpjgomnpaaGreat
open Go.Sl 
attribute [local irreducible] ag.aq aN.iX aa.cP aa.cD aa.iI aa.dp aa.dg aa.ld aa.fH aa.two aa.jG aa.lg aa.nm aa.parts
abbrev wx (P:List Int) (W H:Nat) (b:Nat) (q:Option Addr) (c:Nat):List Ce:=[Ce.mk aa.bM (soz b) 13 (aa.hB (W:Int) (H:Int)),Ce.mk aa.aW q c (aa.cP (aa.dg P W H)),Ce.mk aa.aY none 0 []]
def S4{P:List Int}{W H:Nat}(s:aa.Sz P W H)(b:Nat)(q:Option Addr)(c:Nat):∀x∈wx P W H b q c,aa.nm x.ch:=fun x hx=>by
 simp only[wx,List.mem_cons,List.not_mem_nil,or_false] at hx
 rcases hx with rfl|rfl|rfl
 ·exact(aa.vT s _ (List.mem_cons_self ..)).1
 ·exact(aa.vT s _ (List.mem_cons_of_mem _ (List.mem_cons_self ..))).1
 ·exact aa.x9
def M6(P:List Int)(W H:Nat)(b:Nat)(q:Option Addr)(c:Nat):aa.cD ((wx P W H b q c).map Ce.ch)=aa.fH P W H:=by
 unfold aa.fH aa.mw
 rfl
def UR{P:List Int}{W H:Nat}{b:Nat}{q:Option Addr}{c c1:Nat}{w0:World}{h:Hp}(hh:cY w0 [Row U5 (soz b) 13 c1 (aa.hB (W:Int) (H:Int)),Row U5 q (aa.cP (aa.dg P W H)).length c (aa.cP (aa.dg P W H))] h):DK (wx P W H b q c) w0 h:=by
 obtain⟨h1,h2,_,l1,l2,a,h3,h4,_,l3,l4,d,_⟩:=hh
 intro x hx
 simp only[wx,List.mem_cons,List.not_mem_nil,or_false] at hx
 rcases hx with rfl|rfl|rfl
 ·exact(Row.Wj a).mono l1
 ·exact(Row.Wj d).mono (Hp.le_trans l3 l2)
 ·exact⟨rfl,.inl rfl⟩

def RM(P:List Int)(W H:Nat)(hs:aa.Sz P W H)(q:Option Addr)(cc:Nat)(hcap:P.length≤cc)(R:ad)(hR:∀w0 h,R w0 h→aE (aK 62 .u16) q P.length P w0 h):aA Tryz.prog 22 [.agg #[I6 (W:Int),I6 (H:Int),.slice q P.length cc]] [R] (aF fun v G=>∃q2 c2,v=.slice q2 (aa.fH P W H).length c2∧G=[Row U5 q2 (aa.fH P W H).length c2 (aa.fH P W H),R]):=by
 refine ao [(0,_)] Tryz.func22 rfl Tryz.ntmps22 rfl rfl ?_
 intro w0 F
 have hn:=aa.abP hs
 have hw:=hs.w
 have hh:=hs.h
 refine(uE) ?_
 intro b1
 refine(QC)<|(wc) ?_
 rw[show Row U5 none 0 0 []=Row U5 none (aa.dg P W 0).length 0 (aa.dg P W 0) from by unfold aa.dg;rfl,show((3:Nat),Value.slice none 0 0)=(3,.slice none (aa.dg P W 0).length 0) from by unfold aa.dg;rfl]
 refine dP (fun(y:Nat) (po:Option Addr) (co:Nat)=>[(1,.pointer (soz b1)),(3,.slice po (aa.dg P W y).length co),(4,I6 (y:Int))]) (fun(y:Nat) (po:Option Addr) (co:Nat)=>Row U5 po (aa.dg P W y).length co (aa.dg P W y)::ai b1 26 [I6 (W:Int),I6 (H:Int),.slice q P.length cc]::R::F) (fun(y:Nat) (po:Option Addr) (co:Nat)=>y≤H) (fun(y:Nat) (po:Option Addr) (co:Nat)=>H-y) (i3 (0) (none) (0) ?_ (eo ln) (sub (dV .nil) aj)) ?_
 ·exact Nat.zero_le _
 intro y po co
 rintro hy
 refine(lY)<|(QW)<|(Qc) ?_
 refine av rfl (fun h13=>?_) (fun h13=>?_)
 ·refine(Qb) ?_
  have hle:=aa.D5 (y:=y) hs omg
  refine(Q5) ?_
  refine cg (U5) [0] V.bT V.z5 rfl rfl rfl rfl rfl rfl ?_
  intro nW
  refine(G0) ?_
  intro p18 c18
  refine(Qn) ?_
  rw[show(aa.dg P W y).length+1=(aa.ld P W y 0).length from by rw[←aa.IZ,List.length_append];rfl,aa.IZ]
  refine dP (fun(i:Nat) (pi:Option Addr) (ci:Nat)=>[(1,.pointer (soz b1)),(3,.slice pi (aa.ld P W y i).length ci),(4,I6 (y:Int)),(5,I6 (i:Int))]) (fun(i:Nat) (pi:Option Addr) (ci:Nat)=>Row U5 pi (aa.ld P W y i).length ci (aa.ld P W y i)::ai b1 26 [I6 (W:Int),I6 (H:Int),.slice q P.length cc]::R::F) (fun(i:Nat) (pi:Option Addr) (ci:Nat)=>i≤4*W) (fun(i:Nat) (pi:Option Addr) (ci:Nat)=>4*W-i) (i3 (0) (_) (_) ?_ (cK ln) (sub (an (.cons ar (.cons ar .nil))) bg)) ?_
  ·exact Nat.zero_le _
  intro i pi ci
  rintro hi
  refine(lY)<|(QW)<|(uw) ?_
  refine av rfl (fun h23=>?_) (fun h23=>?_)
  ·refine(Qb) ?_
   have hsg:=aa.GX (y:=y) (i:=i) hs.len omg omg
   have hWy:4*(W:Int)*(y:Int)=((4*W*y:Nat):Int):=by rw[Int.natCast_mul,Int.natCast_mul];rfl
   have hq:(aK 62 .u16).g P (((4*W*y:Nat):Int)+(i:Int))=(P.getD (4*W*y+i) 0):=gE (4*W*y+i) omg
   have hv:=hs.u.get (4*W*y+i)
   refine(Q5) ?_
   refine oV (aB V.uO rfl cX rfl)<|(IF)<|(QW)<|(o7) ?_
   refine oV (fR (r:=((4*W*y:Nat):Int)) rfl rfl (by rw[hWy];exact gI omg omg))<|(o7) ?_
   refine oV (xI V.iJ (by exact bK hR dz))<|oV (xL V.nH (by exact bK hR dz)) ?_
   rw[hq]
   refine(Qc) ?_
   have hle:=aa.RI (y:=y) (i:=i) hs omg omg
   refine(Q3) ?_
   refine oV (eF (r:=(P.getD (4*W*y+i) 0)/256) rfl rfl dec (ag.pL (k:=8) dec rfl))<|oV (cS V.ZG Tryz.underlying5 rfl (Ge omg omg))<|(Q8) ?_
   refine oV (cS V.ZG Tryz.underlying5 rfl (aa.gU _))<|cg (U5) [(P.getD (4*W*y+i) 0)/256,(P.getD (4*W*y+i) 0)%256] V.bT V.z5 rfl rfl rfl rfl rfl rfl ?_
   intro NX
   refine(G0) ?_
   intro p44 c44
   refine(QU) ?_
   have hfin:=aa.Uf (y:=y) (i:=i) hs.len omg omg
   have hln:(aa.ld P W y i).length+2=(aa.ld P W y (i+1)).length:=by rw[←hfin,List.length_append];rfl
   rw[hfin,hln]
   exact j3 (i+1) _ _ ⟨omg,omg⟩ (cK ln) (sub (an (.cons ar (.cons ar .nil))) bg)
  ·refine(wM) ?_
   obtain rfl:i=4*W:=omg
   rw[aa.R9 hs.len omg]
   exact j3 (y+1) _ _ ⟨omg,omg⟩ (eo ln) (sub (dV .nil) aj)
 ·refine(pB)<|(QW) ?_
  refine oV (eF (r:=(W:Int)/256) rfl rfl dec (ag.pL (k:=8) dec rfl))<|(sb)<|(IF)<|(QW)<|(C1)<|(M5)<|(QW) ?_
  refine oV (eF (r:=(H:Int)/256) rfl rfl dec (ag.pL (k:=8) dec rfl))<|(sb)<|(M5)<|(QW)<|(C1) ?_
  refine KW (T:=5) (k:=.u8) (aa.hB (W:Int) (H:Int)) V.bT V.z5 rfl rfl rfl rfl ?_
  intro yN
  refine(Q7) ?_
  obtain rfl:H=y:=omg
  have hle:=aa.qM hs
  have hpl:=aa.sH hs
  have hcl:=aa.tE (B:=aa.dg P W H) omg
  refine fe (fun w hi=>eb hi (show Row U5 po (aa.dg P W H).length co (aa.dg P W H)∈_ by exact cX)) (fun hco=>?_)
  refine(Q5) ?_
  refine oV (cE V.Kp V.Dj rfl (cs:=[_,_]) rfl)<|(Q8) ?_
  refine aQ (Rm po co (aa.dg P W H) (Row U5 po (aa.dg P W H).length co (aa.dg P W H)) (fun w0 h hh=>⟨hh.1,hh.2.rd⟩) omg (aa.qX W hs.u H) hco) V.MR rfl (.cons ar .nil) rfl ?_
  rintro _ _ ⟨qz,cz,rfl,rfl⟩
  iterate 2 refine oV (cE V.Kp V.Dj rfl (cs:=[_,_]) rfl) ?_
  refine cg (aP) (wx P W H yN qz cz) V.nL V.Dj rfl rfl rfl rfl rfl rfl ?_
  intro GR
  refine Yd (aS (A:=DK (wx P W H yN qz cz)) (.cons cB (.cons ar .nil)) aj (fun w0 h hh=>UR (P:=P) (W:=W) (H:=H) hh))<|aQ (WU (soz GR) 3 (wx P W H yN qz cz) (Row aP (soz GR) 3 3 (wx P W H yN qz cz)) (fun w0 h hh=>⟨hh.1,hh.2.rd⟩) (show 3≤262144 by decide) (S4 hs _ _ _) (by rw[M6,hpl];omega)) V.Uw rfl (.cons ar (an .nil)) rfl ?_
  rintro _ _ ⟨qj,cj,rfl,rfl⟩
  rw[M6]
  refine(QE) ?_
  exact af (aw rfl) ⟨_,_,rfl,rfl⟩ (sub (an (.cons gW .nil)) gF)

def Lg(w h e:Int)(L:List Int)(q1:Option Addr)(n1 c1:Nat)(hn1:L.length=n1)(R1:ad)(hR1:∀w0 h,R1 w0 h→aE (aK 62 .u16) q1 n1 L w0 h)(q2:Option Addr)(n2 c2:Nat)(hn2:L.length=n2)(R2:ad)(hR2:∀w0 h,R2 w0 h→aE (aK 62 .u16) q2 n2 L w0 h)(hg:aa.Good (⟨w,h,L⟩,e)):aA Tryz.prog 16 [.agg #[I6 w,I6 h,.slice q1 n1 c1],I6 e,.agg #[I6 w,I6 h,.slice q2 n2 c2],I6 e] [R1,R2] (aF fun v G=>v=.bool true∧G=[R1,R2]):=by
 refine ao [(0,_),(1,_),(2,_),(3,_)] Tryz.func16 rfl Tryz.ntmps16 rfl rfl ?_
 intro w0 F
 have hb4:=aa.O1 hg
 refine(uE) ?_
 intro b4
 refine(WK) ?_
 intro b6
 refine(Qe)<|(QM)<|(Q6) ?_
 rcases(aa.Mn hg) with⟨he,hw,hh,hL⟩|⟨he,hs,hl⟩
 ·refine(Q4)<|(NH)<|(Q1)<|(QW) ?_
  refine oV (bQ (bG rfl rfl) hw)<|(Qm)<|(QW)<|(Q0) ?_
  refine oV (bQ (bG rfl rfl) hh)<|(Qk) ?_
  refine oV (aB V.uO rfl cX rfl)<|(Q0) ?_
  refine oV (lA (ty':=0) Tryz.underlying24 rfl)<|(Q0)<|(QD)<|(Q1) ?_
  exact af (aw rfl) ⟨rfl,rfl⟩ (sub (.cons aL (.cons aL .nil)) dC)
 ·refine(Q4) ?_
  refine oV (bC (bO rfl rfl) (fun hh=>hh he))<|(Qd)<|(sa)<|(wQ) ?_
  refine oC (GY w h q1 n1 c1 L hn1 R1 hR1 w h q2 n2 c2 L hn2 R2 hR2 omg true (decide_eq_true (by unfold aa.jG;rw[←hn1,←hn2];exact⟨⟨hs,hl⟩,⟨hs,hl⟩,rfl,rfl,rfl⟩)).symm) V.gk rfl (.cons aL (.cons aL .nil)) rfl<|(Q7) ?_
  exact af (aw rfl) ⟨rfl,rfl⟩ (sub (aJ .nil) dC)
end Go.Proofs.YtmaiakpjgomnpaaGreat
namespace Go.Proofs.YtmaiakpjgomnpaaGreat
open Go.Sl
def V.jW:az Tryz.prog 14=true:=by kernel_rfl
def V.yP:az Tryz.prog 22=true:=by kernel_rfl
end Go.Proofs.YtmaiakpjgomnpaaGreat
namespace Go.Proofs.YtmaiakpjgomnpaaGreat
open Go.Sl 
attribute [local irreducible] ag.aq aN.iX aa.cP aa.cD aa.iI aa.dp aa.dg aa.fH aa.two aa.jG aa.lg aa.nm

def Pt:aA Tryz.prog 13 [] [] (aF fun v G=>v=.bool true∧G=[]):=by
 refine ao [] Tryz.func13 rfl Tryz.ntmps13 rfl rfl ?_
 intro w0 F
 refine rT TT 7 rfl<|aQ (EI 1 1 dec) V.Zd rfl .nil rfl ?_
 rintro _ _ ⟨bq,rfl,rfl⟩
 rw[show(4*(1:Int)*1).toNat=4 from rfl,show List.replicate 4 (0:Int)=[0,0,0,0] from rfl]
 refine(Qc)<|(ti) ?_
 intro b1
 refine(Dz) ?_
 refine(Q7) ?_
 refine wN [pz 0 [] [1],pz 1 [0] [],pz 0 [] [1],pz 4 [2] [],pz 3 [1] [],pz 19 [4] [],pz 63 [3] [],pz 127 [6] []] [⟨fun y=>ai b1 26 [I6 1,I6 1,.slice (soz bq) 4 4],none,none,[1,3]⟩,⟨fun y=>Row (aK 62 .u16) (soz bq) 4 4 [0,0,0,0],none,some 5,[4]⟩,⟨fun y=>Row (aK 62 .u16) (soz bq) 4 4 (([0,0,0,0]).set (2:Int).toNat 7),some 5,some 7,[6]⟩,⟨fun y=>Row (aK 62 .u16) (soz bq) 4 4 ((([0,0,0,0]).set (2:Int).toNat 7).set (3:Int).toNat 65535),some 7,none,[]⟩] F V.mixed ?_
 refine nG V.wU ?_
 refine(NM) ?_
 refine nG V.wU ?_
 refine(NM) ?_
 refine(Q1h) ?_
 refine(Q8G) ?_
 refine(Q1h) ?_
 refine(Q8G) ?_
 refine(Qi) ?_
 intro y hA
 clear hA
 refine bJ<|bW _ (.cons (d:=1) rfl (.nil _))<|bA (M:=ai b1 26 [I6 1,I6 1,.slice (soz bq) 4 4]::Row (aK 62 .u16) (soz bq) 4 4 ((([0,0,0,0]).set (2:Int).toNat 7).set (3:Int).toNat 65535)::F) (fun _ _ h=>h)<|(Qa) ?_
 rw[show(([0,0,0,0]:List Int).set ((2:Int)).toNat 7).set ((3:Int)).toNat 65535=[0,0,7,65535] from rfl]
 have hpl:=aa.sH aa.Gk
 have hrl:=aa.qM aa.Gk
 have hcl:=aa.tE (B:=aa.dg [0,0,7,65535] 1 1) omg
 refine(QF)<|(wQ) ?_
 refine aQ (RM [0,0,7,65535] 1 1 aa.Gk (soz bq) 4 dec (Row (aK 62 .u16) (soz bq) 4 4 [0,0,7,65535]) (fun w0 h hh=>⟨hh.1,hh.2.rd⟩)) V.yP rfl (.cons ar .nil) rfl ?_
 rintro _ _ ⟨q2,c2,rfl,rfl⟩
 refine WO (fun w hi=>eb hi (show Row U5 q2 (aa.fH [0,0,7,65535] 1 1).length c2 (aa.fH [0,0,7,65535] 1 1)∈_ by exact ay)) (fun hc2=>?_)
 refine aQ (va q2 c2 (aa.fH [0,0,7,65535] 1 1) (Row U5 q2 (aa.fH [0,0,7,65535] 1 1).length c2 (aa.fH [0,0,7,65535] 1 1)) (fun w0 h hh=>⟨hh.1,hh.2.rd⟩) omg (aa.Hk aa.Gk) hc2 _ (aa.Iy aa.Gk)) V.jW rfl (an .nil) rfl ?_
 rintro _ _ ⟨qd,nd,cd,rfl,hnd,hcd,rfl⟩
 obtain rfl:nd=4:=hnd.symm
 refine(Qc)<|(ti) ?_
 intro b3
 refine(Dz)<|(Q7)<|(wc)<|(QF) ?_
 refine aQ (va none 0 [] (Row U5 none 0 0 []) (fun w0 h hh=>⟨hh.1,hh.2.rd⟩) dec aN.jc dec _ aa.RQ) V.jW rfl (an .nil) rfl ?_
 rintro _ _ ⟨qe,ne,ce,rfl,hne,hce,rfl⟩
 obtain rfl:ne=0:=hne.symm
 refine(Qc)<|(ti) ?_
 intro b5
 refine cC (aZ V.ff rfl rfl (us:=[_,_,_]) rfl rfl (by exact ft) (by exact Nat.le_of_ble_eq_true rfl) rfl) ?_
 refine rO TT 6 rfl ?_
 refine oV (bQ (bG rfl rfl) omg) ?_
 refine oV (jh rfl) ?_
 refine bB rfl ?_
 refine oV (bU V.ff rfl MI (vs:=[_,_,_]) rfl rfl) ?_
 refine bB rfl ?_
 refine oV (bU V.ff rfl fX (vs:=[_,_,_]) rfl rfl) ?_
 refine bB rfl ?_
 refine oC (GY 1 1 (soz bq) 4 4 [0,0,7,65535] rfl (Row (aK 62 .u16) (soz bq) 4 4 [0,0,7,65535]) (fun w0 h hh=>⟨hh.1,hh.2.rd⟩) 1 1 qd 4 cd [0,0,7,65535] rfl (Row (aK 62 .u16) qd 4 cd [0,0,7,65535]) (fun w0 h hh=>⟨hh.1,hh.2.rd⟩) dec true (decide_eq_true (by unfold aa.jG;exact⟨⟨by decide,rfl⟩,⟨by decide,rfl⟩,rfl,rfl,rfl⟩)).symm) V.gk rfl (.cons nQ (.cons gW .nil)) rfl ?_
 refine rO TT 3 rfl ?_
 refine bB rfl ?_
 refine oV (bQ (bG rfl rfl) omg) ?_
 refine rO TT 2 rfl ?_
 refine bB rfl ?_
 refine oC (gV 6) V.pg rfl .nil rfl ?_
 refine bB rfl ?_
 refine oV (bQ (bG rfl rfl) dec) ?_
 refine rO TT 5 rfl ?_
 exact af (aw rfl) ⟨rfl,rfl⟩ (sub .nil Ng)
end Go.Proofs.YtmaiakpjgomnpaaGreat
namespace Go.Proofs.YtmaiakpjgomnpaaGreat
open Go.Sl
def V.Mg:az Tryz.prog 13=true:=by kernel_rfl
def V.iN:az Tryz.prog 15=true:=by kernel_rfl
def V.nY:az Tryz.prog 16=true:=by kernel_rfl
end Go.Proofs.YtmaiakpjgomnpaaGreat
namespace Go.Proofs.YtmaiakpjgomnpaaGreat
open Go.Sl 
attribute [local irreducible] ag.aq aa.lg aa.Good aa.fH aa.jG aa.parts

def Gr(p:Option Addr)(cap:Nat)(B:List Int)(hB:ag.aq B)(hcap:B.length≤cap):aA Tryz.prog 3 [.slice p B.length cap] [aE U5 p B.length B] (aF fun v G=>v=.bool true∧G=[aE U5 p B.length B]):=by
 refine ao [(0,_)] Tryz.func3 rfl Tryz.ntmps3 rfl rfl ?_
 intro w0 F
 refine(QQ) ?_
 refine oC (Pt) V.Mg rfl .nil rfl<|(QE) ?_
 refine av rfl (fun h11=>?_) (fun h11=>?_)
 ·refine(Qr) ?_
  exact af (aw rfl) ⟨rfl,rfl⟩ (sub (an .nil) aj)
 ·refine(Q3) ?_
  obtain⟨r,hr⟩:=aa.lg.ex hB
  refine(Q5) ?_
  refine aQ (va p cap B (aE U5 p B.length B) (fun _ _ hh=>hh) omg hB hcap r hr) V.jW rfl (an .nil) rfl ?_
  rintro _ _ ⟨q1,n1,c1,rfl,hn1,hc1,rfl⟩
  refine(Qc)<|(ti) ?_
  intro b3
  refine(Dz)<|(Q1) ?_
  refine aQ (Xp p cap B (aE U5 p B.length B) (fun _ _ hh=>hh) omg hB hcap r hr) V.iN rfl (.cons aL .nil) rfl ?_
  rintro _ _ ⟨q2,n2,c2,rfl,hn2,hc2,rfl⟩
  refine(Qc)<|(ti) ?_
  intro b5
  refine(Dz)<|(Q6) ?_
  refine oV (bU V.ff rfl fX (vs:=[_,_,_]) rfl rfl)<|(Q8)<|(wQ)<|(Q8) ?_
  refine oC (Lg r.1.w r.1.h r.2 r.1.cN q1 n1 c1 hn1 (Row (aK 62 .u16) q1 n1 c1 r.1.cN) (fun w0 h hh=>⟨hh.1,hh.2.rd⟩) q2 n2 c2 hn2 (Row (aK 62 .u16) q2 n2 c2 r.1.cN) (fun w0 h hh=>⟨hh.1,hh.2.rd⟩) hr.ac1) V.nY rfl (.cons gW (.cons ar .nil)) rfl<|(Q7) ?_
  exact af (aw rfl) ⟨rfl,rfl⟩ (sub (.cons cB .nil) gF)
end Go.Proofs.YtmaiakpjgomnpaaGreat

/- Walks of functions that the law reaches, and what they lean on; no conditions. -/
import Derived.Test.YtmaiakpjgomnpaaGreatM8
set_option linter.defProp false
set_option maxHeartbeats 16000000
set_option maxRecDepth 100000
set_option linter.unusedVariables false
set_option linter.unusedSimpArgs false
set_option maxRecDepth 100000
namespace Go.Proofs.YtmaiakpjgomnpaaGreat
open Go.Sl 
attribute [local irreducible] ag.aq aa.bD aa.up aa.cL aa.gn aa.iE aa.eH aa.jG aa.deep aa.parts HW
abbrev HV (h:aa.Hd):Value:=.agg #[I6 h.w,I6 h.h,I6 h.dep,I6 h.ak,.bool h.aV]

def GY(w1 h1:Int)(q1:Option Addr)(n1 c1:Nat)(L1:List Int)(hn1:L1.length=n1)(R1:ad)(hR1:∀w0 h,R1 w0 h→aE (aK 62 .u16) q1 n1 L1 w0 h)(w2 h2:Int)(q2:Option Addr)(n2 c2:Nat)(L2:List Int)(hn2:L2.length=n2)(R2:ad)(hR2:∀w0 h,R2 w0 h→aE (aK 62 .u16) q2 n2 L2 w0 h)(hs1:n1≤100000000)(t:Bool)(ht:t=decide (aa.jG w1 h1 n1 w2 h2 n2 L1 L2)):aA Tryz.prog 23 [.agg #[I6 w1,I6 h1,.slice q1 n1 c1],.agg #[I6 w2,I6 h2,.slice q2 n2 c2]] [R1,R2] (aF fun v G=>v=.bool t∧G=[R1,R2]):=by
 refine ao [(0,_),(1,_)] Tryz.func23 rfl Tryz.ntmps23 rfl rfl ?_
 intro w0 F
 refine(uE) ?_
 intro b2
 refine(WK) ?_
 intro b3
 refine(Qc) ?_
 rcases(aa.XF w1 h1 n1 w2 h2 n2 L1 L2) with⟨a,hs⟩|⟨a,a2,hs⟩|⟨a,a2,a3,hs⟩|⟨a,a2,a3,a4,hs⟩|⟨a,a2,a3,a4,a5⟩
 ·refine(Q3)<|(sa) ?_
  refine oC (wD w1 h1 q1 n1 c1 false (decide_eq_false a).symm) V.kM rfl .nil rfl<|rO TT 30 rfl ?_
  obtain rfl:t=false:=ht.trans (decide_eq_false hs)
  exact af (aw rfl) ⟨rfl,rfl⟩ (sub (.cons aL (.cons aL .nil)) dC)
 ·refine(Q3)<|(sa)<|(NV)<|(Qm)<|(wQ)<|(Q0) ?_
  refine oC (wD w2 h2 q2 n2 c2 false (decide_eq_false a2).symm) V.kM rfl .nil rfl<|rO TT 26 rfl ?_
  obtain rfl:t=false:=ht.trans (decide_eq_false hs)
  exact af (aw rfl) ⟨rfl,rfl⟩ (sub (.cons aL (.cons aL .nil)) dC)
 ·refine(Q3)<|(sa)<|(NV)<|(Qm)<|(wQ)<|(Q0)<|(TA)<|(Qu)<|(QW)<|(Q0)<|(IF)<|(Q0)<|(nX) ?_
  refine oV (bQ (bO rfl rfl) a3)<|(qK) ?_
  obtain rfl:t=false:=ht.trans (decide_eq_false hs)
  exact af (aw rfl) ⟨rfl,rfl⟩ (sub (.cons aL (.cons aL .nil)) dC)
 ·refine(Q3)<|(sa)<|(NV)<|(Qm)<|(wQ)<|(Q0)<|(TA)<|(Qu)<|(QW)<|(Q0)<|(IF)<|(Q0)<|(nX) ?_
  refine oV (bC (bO rfl rfl) (fun hh=>hh a3))<|(Qk)<|(QW)<|(Q0)<|(M5)<|(Q0)<|(Ql) ?_
  refine(Q0) ?_
  refine oV (bQ (bO rfl rfl) a4)<|(Qj) ?_
  obtain rfl:t=false:=ht.trans (decide_eq_false hs)
  exact af (aw rfl) ⟨rfl,rfl⟩ (sub (.cons aL (.cons aL .nil)) dC)
 ·refine(Q3)<|(sa)<|(NV)<|(Qm)<|(wQ)<|(Q0)<|(TA)<|(Qu)<|(QW)<|(Q0)<|(IF)<|(Q0)<|(nX) ?_
  refine oV (bC (bO rfl rfl) (fun hh=>hh a3))<|(Qk)<|(QW)<|(Q0)<|(M5)<|(Q0)<|(Ql) ?_
  refine(Q0) ?_
  refine oV (bC (bO rfl rfl) (fun hh=>hh a4))<|(Qq) ?_
  refine cF (fun(i:Nat)=>[(2,.pointer (soz b2)),(3,.pointer (soz b3)),(5,I6 (i:Int))]) (fun(i:Nat)=>ai b3 26 [I6 w2,I6 h2,.slice q2 n2 c2]::ai b2 26 [I6 w1,I6 h1,.slice q1 n1 c1]::R1::R2::F) (fun(i:Nat)=>i≤n1∧∀j,j<i→L1.getD j 0=L2.getD j 0) (fun(i:Nat)=>n1-i) (i1 (0) ?_ (eo ln) (sub (jm .nil) aj)) ?_
  ·exact⟨Nat.zero_le _,fun j hj=>by omega⟩
  intro i
  rintro⟨hi,hall⟩
  refine(lY) ?_
  refine oV (aB V.uO rfl cX rfl)<|(Q7) ?_
  refine av rfl (fun h32=>?_) (fun h32=>?_)
  ·refine(Q4) ?_
   rcases(Classical.em (((aK 62 .u16).g L1 (i:Int))≠((aK 62 .u16).g L2 (i:Int)))) with hne|hne
   ·refine(Qa)<|(jV)<|(N3) ?_
    refine oR (aB V.uO rfl cX rfl)<|(mq)<|(Q8N)<|(N3) ?_
    refine oR (aB V.uO rfl ay rfl)<|(mq)<|(Q8O) ?_
    refine oR (bQ (bO rfl rfl) hne)<|(lq) ?_
    refine rN TT 13 rfl ?_
    obtain rfl:t=false:=ht.trans (decide_eq_false (fun hh=>aa.Nq hne (by unfold aa.jG at hh;exact hh.2.2.2.2)))
    exact af (aw rfl) ⟨rfl,rfl⟩ (sub (.cons aL (.cons aL .nil)) dC)
   ·refine(Qa)<|(jV)<|(N3) ?_
    refine oR (aB V.uO rfl cX rfl)<|(mq)<|(Q8N)<|(N3) ?_
    refine oR (aB V.uO rfl ay rfl)<|(mq)<|(Q8O) ?_
    refine oR (bC (bO rfl rfl) hne)<|(lq) ?_
    refine Ug TT 10 rfl omg ?_
    refine j1 (i+1) ?_ (eo ln) (sub (jm .nil) aj)
    exact⟨⟨omg,fun j hj=>(Nat.lt_succ_iff_lt_or_eq.1 hj).elim (hall j) (fun e=>e▸Classical.not_not.1 hne)⟩,omg⟩
  ·refine(lW) ?_
   obtain rfl:t=true:=ht.trans (decide_eq_true (by unfold aa.jG;exact⟨a,a2,a3,a4,aa.GP omg (fun j hj=>hall j omg)⟩))
   exact af (aw rfl) ⟨rfl,rfl⟩ (sub (.cons aL (.cons aL .nil)) dC)

def BU(p:Option Addr)(c:Nat)(B:List Int)(R:ad)(hR:∀w0 h,R w0 h→aE U5 p B.length B w0 h)(hB:ag.aq B)(hl:B.length<500000000)(a m:Nat)(hm:m≤4)(ha:a+m≤B.length):aA Tryz.prog 59 [.slice p B.length c,.int .i64 (a:Int),.int .i64 (m:Int)] [R] (aF fun v G=>v=.int .i64 (aa.iE B a m)∧G=[R]):=by
 refine ao [(0,_),(1,_),(2,_)] Tryz.func59 rfl Tryz.ntmps59 rfl rfl ?_
 intro w0 F
 refine rT TT 17 rfl ?_
 rw[show((7:Nat),Value.int .i64 0)=(7,.int .i64 (aa.iE B a 0)) from by unfold aa.iE;rfl]
 refine cF (fun(k:Nat)=>[(0,.slice p B.length c),(1,.int .i64 (a:Int)),(2,.int .i64 (m:Int)),(7,.int .i64 (aa.iE B a k)),(8,.int .i64 (k:Int))]) (fun(k:Nat)=>R::F) (fun(k:Nat)=>k≤m) (fun(k:Nat)=>m-k) (i1 (0) ?_ (bb ln) (sub (an .nil) aj)) ?_
 ·exact Nat.zero_le _
 intro k
 rintro hk
 refine(nC) ?_
 refine av rfl (fun h11=>?_) (fun h11=>?_)
 ·refine(Q4) ?_
  have hh4:=aa.UH hB a k omg
  have hv:=hB.get (a+k)
  have hh3:=hh4.2.2 omg
  have hq:U5.g B ((a:Int)+(k:Int))=B.getD (a+k) 0:=gE (a+k) omg
  refine(Q5) ?_
  refine oV (fk (r:=(aa.iE B a k)*256) rfl rfl dec (aC.vl (n:=8) rfl dec rfl omg omg))<|(uw)<|(GS)<|(I1) ?_
  rw[hq]
  refine(mi) ?_
  refine oV (kq (r:=(aa.iE B a k)*256+B.getD (a+k) 0) rfl rfl (aC.pQ (u:=(aa.iE B a k)) (n:=8) rfl hh4.1 omg omg))<|(QU) ?_
  rw[show(aa.iE B a k)*256+B.getD (a+k) 0=(aa.iE B a (k+1)) from by rw[aa.iE]]
  exact j1 (k+1) ⟨omg,omg⟩ (bb ln) (sub (an .nil) aj)
 ·refine(qG) ?_
  obtain rfl:k=m:=omg
  exact af (aw rfl) ⟨rfl,rfl⟩ (sub (an .nil) aj)

def Hn(b b4:Nat)(B:List Int)(out:List Int)(free:Int)(hl:B.length<500000000)(hB:ag.aq B)(j:Nat)(hj:j+4≤B.length):aA Tryz.prog 55 [.pointer (soz b4)] [HW b B (8*j) out free,ai b4 105 [.pointer (soz b)]] (aF fun v G=>v=I6 (aC.bN (B.drop j))∧G=[HW b B (8*j+32) out free,ai b4 105 [.pointer (soz b)]]):=by
 refine ao [(0,_)] Tryz.func55 rfl Tryz.ntmps55 rfl rfl ?_
 intro w0 F
 have h1:=aa.Fk B (8*j)
 have h2:=aa.Fk B (8*j+16)
 refine(l6) ?_
 refine wN [pz 0 [] [0],pz 1 [0] [],pz 3 [1] [],pz 0 [] [0],pz 11 [3] [],pz 31 [2,4] [],pz 63 [5] []] [⟨fun y=>HW b B (8*j) out free,none,some 1,[]⟩,⟨fun y=>ai b4 105 [.pointer (soz b)],none,none,[0,3]⟩,⟨fun y=>HW b B (8*j+16) out free,some 1,some 4,[]⟩,⟨fun y=>HW b B (8*j+16+16) out free,some 4,none,[]⟩] F V.mixed ?_
 refine(As) ?_
 refine nE (fun y FF hA=>aO (Post:=[HW b B (8*j+16) out free]) (kR b B (8*j) out free 16 hl hB dec omg) V.vQ rfl (an .nil) (fun v G h=>by rcases h with⟨rfl,rfl⟩;exact⟨rfl,.refl _⟩)) ?_
 refine nV (fun y hA L=>fk (r:=(aa.cL B (8*j) 16)*65536) rfl rfl dec (aC.vl (n:=16) rfl dec rfl omg omg)) ?_
 refine(As) ?_
 refine nE (fun y FF hA=>aO (Post:=[HW b B (8*j+16+16) out free]) (kR b B (8*j+16) out free 16 hl hB dec omg) V.vQ rfl (an .nil) (fun v G h=>by rcases h with⟨rfl,rfl⟩;exact⟨rfl,.refl _⟩)) ?_
 refine nV (fun y hA L=>kq (r:=(aa.cL B (8*j) 16)*65536+(aa.cL B (8*j+16) 16)) rfl rfl (aC.pQ (u:=(aa.cL B (8*j) 16)) (n:=16) rfl h1.1 omg omg)) ?_
 refine nA ?_
 refine(Qi) ?_
 intro y hA
 clear hA
 refine bJ<|bW _ (.cons (d:=1) rfl (.nil _))<|bA (M:=ai b4 105 [.pointer (soz b)]::HW b B (8*j+16+16) out free::F) (fun _ _ h=>h)<|(Qa) ?_
 exact af (aw rfl) ⟨congrArg (Value.int .i64) (aa.Va hB j),rfl⟩ (sub (.cons ar (an .nil)) aj)

def SA(p:Option Addr)(c:Nat)(B:List Int)(R:ad)(hR:∀w0 h,R w0 h→aE U5 p B.length B w0 h)(hB:ag.aq B):aA Tryz.prog 17 [.slice p B.length c] [R] (aF fun v G=>v=.tuple #[HV (aa.L8 B),I6 (aa.eH B)]∧G=[R]):=by
 refine ao [(0,_)] Tryz.func17 rfl Tryz.ntmps17 rfl rfl ?_
 intro w0 F
 have hb8:=hB.get 8
 have hb9:=hB.get 9
 have hb10:=hB.get 10
 have hb11:=hB.get 11
 have hb12:=hB.get 12
 refine(QK) ?_
 refine de V.zc rfl ?_
 intro b2
 refine(Qc) ?_
 rcases(Classical.em (B.length≠13)) with h0|h0
 ·refine(Qb)<|(yZ)<|(Q6)<|(Cj)<|(za)<|(Q6) ?_
  exact af (cH V.qk rfl ay rfl rfl) ⟨by rw[aa.xq h0,aa.jI (aa.xq h0) dec];rfl,rfl⟩ (sub (.cons ar .nil) bg)
 ·refine(Qb)<|(QM)<|(Qe) ?_
  refine aQ (Bx p c B R hR omg) V.Oa rfl (.cons ar .nil) rfl ?_
  rintro _ _ ⟨bx,rfl,rfl⟩
  refine de V.z105 rfl ?_
  intro b4
  refine cC (ew V.V3 rfl rfl rfl (by exact ft) (by exact Nat.le_of_ble_eq_true rfl) rfl)<|(Q7) ?_
  refine oV (Fw (fs:=[]) (cs:=[_]) rfl rfl)<|(Q7) ?_
  refine jE [pz 0 [] [5],pz 1 [0] [],pz 0 [] [5],pz 7 [2] [],pz 0 [] [4],pz 31 [4] [],pz 0 [] [4],pz 127 [6] [],pz 255 [1,3,5,7] [],pz 0 [] [],pz 1023 [9,8] []] [⟨fun y=>ai b4 105 [.pointer (soz bx)],none,none,[1,3,4,6]⟩,⟨fun y=>HW bx B (8*0) [] 0,none,some 1,[]⟩,⟨fun y=>R,none,none,[]⟩,⟨fun y=>ai b2 35 [I6 0,I6 0,I6 0,I6 0,.bool false],none,none,[]⟩,⟨fun y=>HW bx B (8*4) [] 0,some 1,some 3,[]⟩,⟨fun y=>HW bx B (8*8) [] 0,some 3,some 5,[]⟩,⟨fun y=>HW bx B (8*9) [] 0,some 5,some 7,[]⟩,⟨fun y=>HW bx B (8*10) [] 0,some 7,none,[]⟩,⟨fun y=>ai (eG (y 9)) 35 [I6 0,I6 0,I6 0,I6 0,.bool false],some 9,some 10,[]⟩,⟨fun y=>ai (eG (y 9)) 35 [I6 (aC.bN B),I6 (aC.bN (B.drop 4)),I6 (B.getD 8 0),I6 (B.getD 9 0),.bool false],some 10,none,[]⟩] F V.mixed (by kernel_rfl) rfl (fun _=>.refl _) (aU _ (aU _ (aU _ (aU _ (dq _ rfl (by intro y y2 h;rfl) (dq _ rfl (by intro y y2 h;rfl) (dq _ rfl (by intro y y2 h;rfl) (dq _ rfl (by intro y y2 h;rfl) (dq _ rfl (by intro y y2 h;simp only[h 9 (.inl rfl)]) (dq _ rfl (by intro y y2 h;simp only[h 9 (.inr dec)]) fw))))))))))<|nM<|nE (fun y FF hA=>lN (vs:=[]) (fs:=[]) (cs:=[.pointer (soz b4)]) (Post:=[HW bx B (8*4) [] 0,ai b4 105 [.pointer (soz bx)]]) (Hn bx b4 B [] 0 omg hB 0 omg) V.b55 rfl rfl (aJ .nil) (fun v G h=>by rcases h with⟨rfl,rfl⟩;exact⟨rfl,.refl _⟩))<|nM<|nE (fun y FF hA=>lN (vs:=[]) (fs:=[]) (cs:=[.pointer (soz b4)]) (Post:=[HW bx B (8*8) [] 0,ai b4 105 [.pointer (soz bx)]]) (Hn bx b4 B [] 0 omg hB 4 omg) V.b55 rfl rfl (aJ .nil) (fun v G h=>by rcases h with⟨rfl,rfl⟩;exact⟨rfl,.refl _⟩))<|(As) ?_
  refine nE (fun y FF hA=>aO (Post:=[HW bx B (8*9) [] 0]) (kR bx B (8*8) [] 0 8 omg hB dec omg) V.vQ rfl (an .nil) (fun v G h=>by rcases h with⟨rfl,rfl⟩;exact⟨by rw[aa.oP (hB.get 8)],.refl _⟩))<|(As) ?_
  refine nE (fun y FF hA=>aO (Post:=[HW bx B (8*10) [] 0]) (kR bx B (8*9) [] 0 8 omg hB dec omg) V.vQ rfl (an .nil) (fun v G h=>by rcases h with⟨rfl,rfl⟩;exact⟨by rw[aa.oP (hB.get 9)],.refl _⟩))<|nV (fun y hA L=>cE V.Si V.zc rfl (cs:=[I6 (aC.bN B),I6 (aC.bN (B.drop 4)),I6 (B.getD 8 0),I6 (B.getD 9 0),.bool false]) (by kernel_rfl))<|fh (fun y v=>.pointer (some ⟨eG v,0,none⟩)) (fun y v=>True) _ _ (fun y v=>[ai (eG v) 35 [I6 0,I6 0,I6 0,I6 0,.bool false]]) _ (fun y=>rfl) (fun y=>rfl) (fun y=>rfl) (fun y=>rfl) (fun y FF hA=>pf (qD V.zc)) (by intros;rfl) (by intros;rfl) (by intros;rfl) (by intro y y2 h;simp only[h 9 (.inl rfl)]) (by intro y y2 h;rfl)<|nE (fun y FF hA=>dm (aZ V.qk rfl rfl (us:=[_,_,_,_,_]) rfl rfl (by exact ft) (by exact Nat.le_of_ble_eq_true rfl) rfl) ⟨rfl,.refl _⟩)<|(Qi) ?_
  intro y hA
  clear hA
  refine bJ<|bW [(2,.pointer (soz b2)),(4,.pointer (soz b4)),(6,.pointer (some ⟨(eG (y 9)),0,none⟩))] (.cons (d:=2) rfl (.cons (d:=4) rfl (.cons (d:=6) rfl (.nil _))))<|bA (M:=ai b4 105 [.pointer (soz bx)]::R::ai b2 35 [I6 0,I6 0,I6 0,I6 0,.bool false]::HW bx B (8*10) [] 0::ai (eG (y 9)) 35 [I6 (aC.bN B),I6 (aC.bN (B.drop 4)),I6 (B.getD 8 0),I6 (B.getD 9 0),.bool false]::F) (fun _ _ h=>h) ?_
  generalize(eG (y 9))=b6
  refine(Qa) ?_
  refine wN [pz 0 [] [4],pz 1 [0] [],pz 0 [] [4],pz 7 [2] [],pz 0 [] [4],pz 31 [4] [],pz 63 [1] [],pz 127 [3] [],pz 255 [5] []] [⟨fun y=>ai b4 105 [.pointer (soz bx)],none,none,[0,2,4]⟩,⟨fun y=>R,none,none,[]⟩,⟨fun y=>ai b2 35 [I6 0,I6 0,I6 0,I6 0,.bool false],none,none,[]⟩,⟨fun y=>HW bx B (8*10) [] 0,none,some 1,[]⟩,⟨fun y=>ai b6 35 [I6 (aC.bN B),I6 (aC.bN (B.drop 4)),I6 (B.getD 8 0),I6 (B.getD 9 0),.bool false],none,none,[]⟩,⟨fun y=>HW bx B (8*11) [] 0,some 1,some 3,[]⟩,⟨fun y=>HW bx B (8*12) [] 0,some 3,some 5,[]⟩,⟨fun y=>HW bx B (8*13) [] 0,some 5,none,[]⟩] F V.mixed<|(As) ?_
  refine nE (fun y FF hA=>aO (Post:=[HW bx B (8*11) [] 0]) (kR bx B (8*10) [] 0 8 omg hB dec omg) V.vQ rfl (an .nil) (fun v G h=>by rcases h with⟨rfl,rfl⟩;exact⟨by rw[aa.oP (hB.get 10)],.refl _⟩))<|(As) ?_
  refine nE (fun y FF hA=>aO (Post:=[HW bx B (8*12) [] 0]) (kR bx B (8*11) [] 0 8 omg hB dec omg) V.vQ rfl (an .nil) (fun v G h=>by rcases h with⟨rfl,rfl⟩;exact⟨by rw[aa.oP (hB.get 11)],.refl _⟩))<|(As) ?_
  refine nE (fun y FF hA=>aO (Post:=[HW bx B (8*13) [] 0]) (kR bx B (8*12) [] 0 8 omg hB dec omg) V.vQ rfl (an .nil) (fun v G h=>by rcases h with⟨rfl,rfl⟩;exact⟨by rw[aa.oP (hB.get 12)],.refl _⟩)) ?_
  iterate 3 refine nA ?_
  refine(Qi) ?_
  intro y hA
  clear hA
  refine bJ<|bW [(2,.pointer (soz b2)),(6,.pointer (soz b6)),(7,I6 (B.getD 10 0)),(8,I6 (B.getD 11 0)),(9,I6 (B.getD 12 0))] (.cons (d:=2) rfl (.cons (d:=6) rfl (.cons (d:=7) rfl (.cons (d:=8) rfl (.cons (d:=9) rfl (.nil _))))))<|bA (M:=ai b4 105 [.pointer (soz bx)]::R::ai b2 35 [I6 0,I6 0,I6 0,I6 0,.bool false]::ai b6 35 [I6 (aC.bN B),I6 (aC.bN (B.drop 4)),I6 (B.getD 8 0),I6 (B.getD 9 0),.bool false]::HW bx B (8*13) [] 0::F) (fun _ _ h=>h)<|(Qb) ?_
  refine cC (ew V.s4 rfl rfl rfl (by exact Md) (by exact Nat.le_of_ble_eq_true rfl) rfl)<|(Q9) ?_
  rcases(aa.hd7 h0) with⟨_,a1,hs⟩|⟨_,a1,a2,hs⟩|⟨_,a1,a2,a3,hs⟩|⟨_,a1,a2,a3,a4,hs⟩|⟨_,a1,a2,a3,a4,a5,hs⟩|⟨_,a1,a2,a3,a4,a5,a6,hs⟩|⟨_,a1,a2,a3,a4,a5,a6,hs⟩
  ·refine(Q4)<|(Qt)<|(zY)<|(Qt) ?_
   refine oC (HF (B.getD 9 0) (B.getD 8 0) false (decide_eq_false a1).symm) V.b57 rfl .nil rfl<|rO TT 26 rfl<|(Cj)<|(BB)<|(Q6) ?_
   exact af (cH V.qk rfl dz rfl rfl) ⟨by rw[hs,aa.jI hs dec];rfl,rfl⟩ (sub (.cons ar .nil) gF)
  ·refine(Q4)<|(Qt)<|(zY)<|(Qt)<|(DZ)<|(xk)<|(Q0) ?_
   refine oV (bQ (cR rfl rfl) a2)<|rO TT 20 rfl<|(Cj)<|(BB)<|(Q6) ?_
   exact af (cH V.qk rfl dz rfl rfl) ⟨by rw[hs,aa.jI hs dec];rfl,rfl⟩ (sub (.cons ar .nil) gF)
  ·refine(Q4)<|(Qt)<|(zY)<|(Qt)<|(DZ)<|(xk)<|(Q0)<|(HU)<|(Qk) ?_
   refine oV (bQ (cR rfl rfl) a3)<|(QO)<|(Cj)<|(BB)<|(Q6) ?_
   exact af (cH V.qk rfl dz rfl rfl) ⟨by rw[hs,aa.jI hs dec];rfl,rfl⟩ (sub (.cons ar .nil) gF)
  ·refine(Q4)<|(Qt)<|(zY)<|(Qt)<|(DZ)<|(xk)<|(Q0)<|(HU)<|(Qk)<|(M8)<|(Qk)<|(Qt)<|(Q0) ?_
   refine oV (bQ (bG rfl rfl) a4)<|(Qj)<|(Cj)<|(BB)<|(Q6) ?_
   exact af (cH V.qk rfl dz rfl rfl) ⟨by rw[hs,aa.jI hs dec];rfl,rfl⟩ (sub (.cons ar .nil) gF)
  ·refine(Q4)<|(Qt)<|(zY)<|(Qt)<|(DZ)<|(xk)<|(Q0)<|(HU)<|(Qk)<|(M8)<|(Qk)<|(Qt)<|(Q0)<|(MT)<|(Qk)<|(Qt)<|(Q0) ?_
   refine oV (bQ (bG rfl rfl) a5)<|(Q1)<|(Cj)<|(BB) ?_
   refine(Q6) ?_
   exact af (cH V.qk rfl dz rfl rfl) ⟨by rw[hs,aa.jI hs dec];rfl,rfl⟩ (sub (.cons ar .nil) gF)
  ·refine(Q4)<|(Qt)<|(zY)<|(Qt)<|(DZ)<|(xk)<|(Q0)<|(HU)<|(Qk)<|(M8)<|(Qk)<|(Qt)<|(Q0)<|(MT)<|(Qk)<|(Qt)<|(Q0) ?_
   refine oV (bC (bG rfl rfl) a5)<|(Qg)<|(Qt) ?_
   refine oV (bP V.vI rfl) ?_
   refine(ZE) ?_
   refine oV (bQ (bO rfl rfl) a6)<|(Q6)<|(Cj)<|(BB)<|(Q6) ?_
   exact af (cH V.qk rfl dz rfl rfl) ⟨by rw[hs,aa.jI hs dec];rfl,rfl⟩ (sub (.cons ar .nil) gF)
  ·refine(Q4)<|(Qt)<|(zY)<|(Qt)<|(DZ)<|(xk)<|(Q0)<|(HU)<|(Qk)<|(M8)<|(Qk)<|(Qt)<|(Q0)<|(MT)<|(Qk)<|(Qt)<|(Q0) ?_
   refine oV (bC (bG rfl rfl) a5)<|(Qg)<|(Qt) ?_
   refine oV (bP V.vI rfl) ?_
   refine(ZE) ?_
   refine oV (bC (bO rfl rfl) a6)<|(Qd) ?_
   refine oV (bU V.qk rfl fX (vs:=[_,_,_,_,_]) rfl rfl)<|(BB)<|(Q7) ?_
   exact af (cH V.qk rfl dz rfl rfl) ⟨by rw[hs,aa.pE hs];rfl,rfl⟩ (sub (.cons ar .nil) gF)

def Fv(p:Option Addr)(c:Nat)(B:List Int)(R:ad)(hR:∀w0 h,R w0 h→aE U5 p B.length B w0 h)(hB:ag.aq B):aA Tryz.prog 18 [.slice p B.length c] [R] (aF fun v G=>v=.tuple #[HV (aa.L8 B),I6 (aa.eH B)]∧G=[R]):=by
 refine ao [(0,_)] Tryz.func18 rfl Tryz.ntmps18 rfl rfl ?_
 intro w0 F
 have hb8:=hB.get 8
 have hb9:=hB.get 9
 have hb10:=hB.get 10
 have hb11:=hB.get 11
 have hb12:=hB.get 12
 refine(QK) ?_
 refine de V.uF rfl ?_
 intro b2
 refine(Qc) ?_
 rcases(Classical.em (B.length≠13)) with h0|h0
 ·refine(Qb)<|(yZ)<|(Q6)<|(Aw)<|(Jg)<|(Q6) ?_
  exact af (cH V.iy rfl ay rfl rfl) ⟨by rw[aa.xq h0,aa.jI (aa.xq h0) dec];rfl,rfl⟩ (sub (.cons ar .nil) bg)
 ·refine rC TT 5 rfl ?_
  refine oV (bC (bO rfl rfl) omg) ?_
  refine rO TT 6 rfl ?_
  refine jE [pz 0 [] [0],pz 1 [0] [],pz 0 [] [0],pz 7 [2] [],pz 0 [] [0],pz 16 [4] [],pz 48 [5] [],pz 112 [6] [],pz 0 [] [0],pz 256 [8] [],pz 768 [9] [],pz 1792 [10] [],pz 0 [] [0],pz 4096 [12] [],pz 12288 [13] [],pz 28672 [14] [],pz 65535 [1,3,7,11,15] [],pz 0 [] [],pz 262143 [17,16] []] [⟨fun y=>ai b2 38 [I6 0,I6 0,I6 0,I6 0,.bool false],none,none,[]⟩,⟨fun y=>R,none,none,[1,3,5,6,9,10,13,14]⟩,⟨fun y=>ai (eG (y 17)) 38 [I6 0,I6 0,I6 0,I6 0,.bool false],some 17,some 18,[]⟩,⟨fun y=>ai (eG (y 17)) 38 [I6 (aC.bN B),I6 (aC.bN (B.drop 4)),I6 (B.getD 8 0),I6 (B.getD 9 0),.bool (decide (B.getD 12 0=1))],some 18,none,[]⟩] F V.mixed (by kernel_rfl) rfl (fun _=>.refl _) (aU _ (aU _ (dq _ rfl (by intro y y2 h;simp only[h 17 (.inl rfl)]) (dq _ rfl (by intro y y2 h;simp only[h 17 (.inr dec)]) fw)))) ?_
  refine nM ?_
  refine nE (fun y FF hA=>aO (Post:=[R]) (BU p c B R hR hB omg 0 4 dec omg) V.yN rfl (an .nil) (fun v G h=>by rcases h with⟨rfl,rfl⟩;exact⟨congrArg (Value.int .i64) (aa.Nk B 0),.refl _⟩)) ?_
  refine nM ?_
  refine nE (fun y FF hA=>aO (Post:=[R]) (BU p c B R hR hB omg 4 4 dec omg) V.yN rfl (an .nil) (fun v G h=>by rcases h with⟨rfl,rfl⟩;exact⟨congrArg (Value.int .i64) (aa.Nk B 4),.refl _⟩)) ?_
  refine nM ?_
  refine nR (fun y FF hA=>xI V.bT (by exact bK hR ay)) ?_
  refine nR (fun y FF hA=>xL V.s5 (by exact bK hR ay)) ?_
  refine nV (fun y hA L=>cS V.u5 Tryz.underlying3 rfl (aa.o8 hb8)) ?_
  refine nM ?_
  refine nR (fun y FF hA=>xI V.bT (by exact bK hR ay)) ?_
  refine nR (fun y FF hA=>xL V.s5 (by exact bK hR ay)) ?_
  refine nV (fun y hA L=>cS V.u5 Tryz.underlying3 rfl (aa.o8 hb9)) ?_
  refine nM ?_
  refine nR (fun y FF hA=>xI V.bT (by exact bK hR ay)) ?_
  refine nR (fun y FF hA=>xL V.s5 (by exact bK hR ay)) ?_
  refine nV (fun y hA L=>bG rfl rfl) ?_
  refine nV (fun y hA L=>cE V.Fo V.uF rfl (cs:=[I6 (aC.bN B),I6 (aC.bN (B.drop 4)),I6 (B.getD 8 0),I6 (B.getD 9 0),.bool (decide (B.getD 12 0=1))]) (by kernel_rfl)) ?_
  refine fh (fun y v=>.pointer (some ⟨eG v,0,none⟩)) (fun y v=>True) _ _ (fun y v=>[ai (eG v) 38 [I6 0,I6 0,I6 0,I6 0,.bool false]]) _ (fun y=>rfl) (fun y=>rfl) (fun y=>rfl) (fun y=>rfl) (fun y FF hA=>pf (qD V.uF)) (by intros;rfl) (by intros;rfl) (by intros;rfl) (by intro y y2 h;simp only[h 17 (.inl rfl)]) (by intro y y2 h;rfl) ?_
  refine nE (fun y FF hA=>dm (aZ V.iy rfl rfl (us:=[_,_,_,_,_]) rfl rfl (by exact ft) (by exact Nat.le_of_ble_eq_true rfl) rfl) ⟨rfl,.refl _⟩) ?_
  refine cZ ?_
  intro y hA
  clear hA
  refine bJ<|bW [(0,.slice p B.length c),(2,.pointer (soz b2)),(4,.pointer (some ⟨(eG (y 17)),0,none⟩))] (.cons (d:=0) rfl (.cons (d:=2) rfl (.cons (d:=4) rfl (.nil _))))<|bA (M:=ai b2 38 [I6 0,I6 0,I6 0,I6 0,.bool false]::R::ai (eG (y 17)) 38 [I6 (aC.bN B),I6 (aC.bN (B.drop 4)),I6 (B.getD 8 0),I6 (B.getD 9 0),.bool (decide (B.getD 12 0=1))]::F) (fun _ _ h=>h) ?_
  generalize(eG (y 17))=b4
  refine(Q3)<|(QY)<|(Qg) ?_
  refine gv (fun(t:Bool)=>[(0,.slice p B.length c),(2,.pointer (soz b2)),(4,.pointer (soz b4)),(6,.bool t)]) (fun(t:Bool)=>ai b4 38 [I6 (aC.bN B),I6 (aC.bN (B.drop 4)),I6 (B.getD 8 0),I6 (B.getD 9 0),.bool (decide (B.getD 12 0=1))]::ai b2 38 [I6 0,I6 0,I6 0,I6 0,.bool false]::R::F) (fun(t:Bool)=>t=decide (aa.fW (B.getD 9 0) (B.getD 8 0))) ?_ ?_
  ·rcases(aa.X8 (B.getD 9 0)) with e0|⟨e0,e1⟩|⟨e0,e1,e2⟩|⟨e0,e1,e2,e3⟩|⟨e0,e1,e2,e3,e4⟩|⟨e0,e1,e2,e3,e4⟩
   ·refine(nT)<|(QY)<|(Q6) ?_
    refine oV (bQ (bG rfl rfl) e0)<|(Qe) ?_
    refine ev 39 rfl (fun h39=>?_) (fun h39=>?_)
    ·refine(qK) ?_
     refine j1 (_) ?_ (cK ln) (sub (.cons aL (aJ .nil)) aj)
     exact aa.ig (by unfold aa.fW;(repeat' split)<;>omega)
    ·refine(Q7) ?_
     refine ev 43 rfl (fun h43=>?_) (fun h43=>?_)
     ·refine(QE) ?_
      refine j1 (_) ?_ (cK ln) (sub (.cons aL (aJ .nil)) aj)
      exact aa.ig (by unfold aa.fW;(repeat' split)<;>omega)
     ·refine(Q7) ?_
      refine ev 47 rfl (fun h47=>?_) (fun h47=>?_)
      ·refine(Qg) ?_
       refine j1 (_) ?_ (cK ln) (sub (.cons aL (aJ .nil)) aj)
       exact aa.ig (by unfold aa.fW;(repeat' split)<;>omega)
      ·refine(Q7) ?_
       refine ev 51 rfl (fun h51=>?_) (fun h51=>?_)
       ·refine(Q1) ?_
        refine j1 (_) ?_ (cK ln) (sub (.cons aL (aJ .nil)) aj)
        exact aa.ig (by unfold aa.fW;(repeat' split)<;>omega)
       ·refine(Q1) ?_
        refine j1 (_) ?_ (cK ln) (sub (.cons aL (aJ .nil)) aj)
        exact aa.ER (by unfold aa.fW;(repeat' split)<;>omega)
   ·refine(nT)<|(QY)<|(Q6)<|(DI)<|(Qd) ?_
    refine oV (bQ (bG rfl rfl) e1)<|(Qj) ?_
    refine ev 61 rfl (fun h61=>?_) (fun h61=>?_)
    ·refine(Q1) ?_
     refine j1 (_) ?_ (cK ln) (sub (.cons aL (aJ .nil)) aj)
     exact aa.ig (by unfold aa.fW;(repeat' split)<;>omega)
    ·refine(Q1) ?_
     refine j1 (_) ?_ (cK ln) (sub (.cons aL (aJ .nil)) aj)
     exact aa.ER (by unfold aa.fW;(repeat' split)<;>omega)
   ·refine(nT)<|(QY)<|(Q6)<|(DI)<|(Qd)<|(MC)<|(Q1) ?_
    refine oV (bQ (bG rfl rfl) e2)<|(Qj) ?_
    refine ev 61 rfl (fun h61=>?_) (fun h61=>?_)
    ·refine(Q1) ?_
     refine j1 (_) ?_ (cK ln) (sub (.cons aL (aJ .nil)) aj)
     exact aa.ig (by unfold aa.fW;(repeat' split)<;>omega)
    ·refine(Q1) ?_
     refine j1 (_) ?_ (cK ln) (sub (.cons aL (aJ .nil)) aj)
     exact aa.ER (by unfold aa.fW;(repeat' split)<;>omega)
   ·refine(nT)<|(QY)<|(Q6)<|(DI)<|(Qd)<|(MC)<|(Q1)<|(Nr)<|(Q6) ?_
    refine oV (bQ (bG rfl rfl) e3)<|(Qe) ?_
    refine ev 61 rfl (fun h61=>?_) (fun h61=>?_)
    ·refine(Q1) ?_
     refine j1 (_) ?_ (cK ln) (sub (.cons aL (aJ .nil)) aj)
     exact aa.ig (by unfold aa.fW;(repeat' split)<;>omega)
    ·refine(Q1) ?_
     refine j1 (_) ?_ (cK ln) (sub (.cons aL (aJ .nil)) aj)
     exact aa.ER (by unfold aa.fW;(repeat' split)<;>omega)
   ·refine(nT)<|(QY)<|(Q6)<|(DI)<|(Qd)<|(MC)<|(Q1)<|(Nr)<|(Q6) ?_
    refine oV (bC (bG rfl rfl) e3)<|(Q1) ?_
    refine oV (bQ (bG rfl rfl) e4)<|(Qe) ?_
    refine ev 69 rfl (fun h69=>?_) (fun h69=>?_)
    ·refine(QE) ?_
     refine j1 (_) ?_ (cK ln) (sub (.cons aL (aJ .nil)) aj)
     exact aa.ig (by unfold aa.fW;(repeat' split)<;>omega)
    ·refine(Q7) ?_
     refine ev 73 rfl (fun h73=>?_) (fun h73=>?_)
     ·refine(Qg) ?_
      refine j1 (_) ?_ (cK ln) (sub (.cons aL (aJ .nil)) aj)
      exact aa.ig (by unfold aa.fW;(repeat' split)<;>omega)
     ·refine(Q7) ?_
      refine ev 77 rfl (fun h77=>?_) (fun h77=>?_)
      ·refine(Q1) ?_
       refine j1 (_) ?_ (cK ln) (sub (.cons aL (aJ .nil)) aj)
       exact aa.ig (by unfold aa.fW;(repeat' split)<;>omega)
      ·refine(Q1) ?_
       refine j1 (_) ?_ (cK ln) (sub (.cons aL (aJ .nil)) aj)
       exact aa.ER (by unfold aa.fW;(repeat' split)<;>omega)
   ·refine(nT)<|(QY)<|(Q6)<|(DI)<|(Qd)<|(MC)<|(Q1)<|(Nr)<|(Q6) ?_
    refine oV (bC (bG rfl rfl) e3)<|(Q1) ?_
    refine oV (bC (bG rfl rfl) e4)<|(Q1) ?_
    refine j1 (_) ?_ (cK ln) (sub (.cons aL (aJ .nil)) aj)
    exact aa.ER (by unfold aa.fW;(repeat' split)<;>omega)
  ·intro t
   rintro ht
   rcases(aa.abX hB h0) with⟨a1,hs⟩|⟨a1,a2,hs⟩|⟨a1,a2,a3,hs⟩|⟨a1,a2,a3,a4,hs⟩|⟨a1,a2,a3,a4,a5,hs⟩|⟨a1,a2,a3,a4,a5,a6,hs⟩|⟨a1,a2,a3,a4,a5,a6,a7,hs⟩|⟨a1,a2,a3,a4,a5,a6,a7,a8,hs,hs2⟩|⟨a1,a2,a3,a4,a5,a6,a7,a8,hs⟩
   ·refine(Q3) ?_
    obtain rfl:t=false:=ht.trans (decide_eq_false a1)
    refine rO TT 41 rfl<|(Aw)<|(Bh)<|(Q6) ?_
    exact af (cH V.iy rfl cX rfl rfl) ⟨by rw[hs,aa.jI hs dec];rfl,rfl⟩ (sub (.cons aL .nil) dC)
   ·refine(Q3) ?_
    obtain rfl:t=true:=ht.trans (decide_eq_true a1)
    refine(WT)<|(AO)<|(Q0)<|(D8) ?_
    refine rO TT 34 rfl<|(Aw)<|(Bh)<|(Q6) ?_
    exact af (cH V.iy rfl cX rfl rfl) ⟨by rw[hs,aa.jI hs dec];rfl,rfl⟩ (sub (.cons aL .nil) dC)
   ·refine(Q3) ?_
    obtain rfl:t=true:=ht.trans (decide_eq_true a1)
    refine rO TT 4 rfl ?_
    refine bB rfl ?_
    refine oV (aB V.s3 rfl ay rfl) ?_
    refine bB rfl ?_
    refine oC (tO (B.getD 9 0)) V.nU rfl .nil rfl ?_
    refine bB rfl ?_
    refine oV (bC (bG rfl rfl) a2) ?_
    refine rO TT 3 rfl ?_
    refine bB rfl ?_
    refine oV (xI V.bT (by exact bK hR dz)) ?_
    refine bB rfl ?_
    refine oV (xL V.s5 (by exact bK hR dz)) ?_
    refine bB rfl ?_
    refine oV (bQ (bO rfl rfl) a3) ?_
    refine rO TT 28 rfl ?_
    refine oV (cE V.Fo V.uF rfl (cs:=[_,_,_,_,_]) rfl) ?_
    refine cC (aZ V.iy rfl rfl (us:=[_,_,_,_,_]) rfl rfl (by exact qn) (by exact Nat.le_of_ble_eq_true rfl) rfl) ?_
    refine rO TT 5 rfl ?_
    exact af (cH V.iy rfl cX rfl rfl) ⟨by rw[hs,aa.jI hs dec];rfl,rfl⟩ (sub (.cons aL .nil) dC)
   ·refine(Q3) ?_
    obtain rfl:t=true:=ht.trans (decide_eq_true a1)
    refine(Q7) ?_
    refine(Q0) ?_
    refine(Ql) ?_
    refine(Q0) ?_
    refine(AO) ?_
    refine(Q0) ?_
    refine(oN) ?_
    refine(Qc) ?_
    refine(Q0) ?_
    refine(mv) ?_
    refine(Q0) ?_
    refine(m8) ?_
    refine(Q0) ?_
    refine(Dq) ?_
    refine(Qc) ?_
    refine(Q0) ?_
    refine(mv) ?_
    refine(Q0) ?_
    refine(m8) ?_
    refine(Q0) ?_
    refine oV (bQ (bO rfl rfl) a4) ?_
    refine rO TT 22 rfl ?_
    refine(Aw) ?_
    refine(Bh) ?_
    refine(Q6) ?_
    exact af (cH V.iy rfl cX rfl rfl) ⟨by rw[hs,aa.jI hs dec];rfl,rfl⟩ (sub (.cons aL .nil) dC)
   ·refine(Q3) ?_
    obtain rfl:t=true:=ht.trans (decide_eq_true a1)
    refine(Q7) ?_
    refine(Q0) ?_
    refine(Ql) ?_
    refine(Q0) ?_
    refine(AO) ?_
    refine(Q0) ?_
    refine(oN) ?_
    refine(Qc) ?_
    refine(Q0) ?_
    refine(mv) ?_
    refine(Q0) ?_
    refine(m8) ?_
    refine(Q0) ?_
    refine(Dq) ?_
    refine(Qc) ?_
    refine(Q0) ?_
    refine(mv) ?_
    refine(Q0) ?_
    refine(m8) ?_
    refine(Q0) ?_
    refine(He) ?_
    refine(Qc) ?_
    refine(Q0) ?_
    refine(mv) ?_
    refine bB rfl ?_
    refine oV (xL V.s5 (by exact bK hR dz)) ?_
    refine bB rfl ?_
    refine oV (bQ (cR rfl rfl) a5) ?_
    refine rO TT 16 rfl ?_
    refine oV (cE V.Fo V.uF rfl (cs:=[_,_,_,_,_]) rfl) ?_
    refine cC (aZ V.iy rfl rfl (us:=[_,_,_,_,_]) rfl rfl (by exact qn) (by exact Nat.le_of_ble_eq_true rfl) rfl) ?_
    refine rO TT 5 rfl ?_
    exact af (cH V.iy rfl cX rfl rfl) ⟨by rw[hs,aa.jI hs dec];rfl,rfl⟩ (sub (.cons aL .nil) dC)
   ·refine(Q3) ?_
    obtain rfl:t=true:=ht.trans (decide_eq_true a1)
    refine(Q7) ?_
    refine(Q0) ?_
    refine(Ql) ?_
    refine(Q0) ?_
    refine(AO) ?_
    refine(Q0) ?_
    refine(oN) ?_
    refine(Qc) ?_
    refine(Q0) ?_
    refine(mv) ?_
    refine(Q0) ?_
    refine(m8) ?_
    refine(Q0) ?_
    refine(Dq) ?_
    refine(Qc) ?_
    refine(Q0) ?_
    refine(mv) ?_
    refine(Q0) ?_
    refine(m8) ?_
    refine(Q0) ?_
    refine(He) ?_
    refine(Qc) ?_
    refine(Q0) ?_
    refine(mv) ?_
    refine(Q0) ?_
    refine(m8) ?_
    refine(Q0) ?_
    refine(M4) ?_
    refine(Qc) ?_
    refine(Q0) ?_
    refine(Ql) ?_
    refine(Q0) ?_
    refine oV (bQ (bG rfl rfl) a6) ?_
    refine(Qj) ?_
    refine(Aw) ?_
    refine(Bh) ?_
    refine(Q6) ?_
    exact af (cH V.iy rfl cX rfl rfl) ⟨by rw[hs,aa.jI hs dec];rfl,rfl⟩ (sub (.cons aL .nil) dC)
   ·refine(Q3) ?_
    obtain rfl:t=true:=ht.trans (decide_eq_true a1)
    refine(Q7) ?_
    refine(Q0) ?_
    refine(Ql) ?_
    refine(Q0) ?_
    refine(AO) ?_
    refine(Q0) ?_
    refine(oN) ?_
    refine(Qc) ?_
    refine(Q0) ?_
    refine(mv) ?_
    refine(Q0) ?_
    refine(m8) ?_
    refine(Q0) ?_
    refine(Dq) ?_
    refine(Qc) ?_
    refine(Q0) ?_
    refine(mv) ?_
    refine(Q0) ?_
    refine(m8) ?_
    refine(Q0) ?_
    refine(He) ?_
    refine(Qc) ?_
    refine(Q0) ?_
    refine(mv) ?_
    refine(Q0) ?_
    refine(m8) ?_
    refine(Q0) ?_
    refine(M4) ?_
    refine(Qc) ?_
    refine(Q0) ?_
    refine(Ql) ?_
    refine(Q0) ?_
    refine oV (bC (bG rfl rfl) a6) ?_
    refine(Qc) ?_
    refine(Q0) ?_
    refine(Ql) ?_
    refine(Q0) ?_
    refine oV (bQ (bG rfl rfl) a7) ?_
    refine(Q1) ?_
    refine(Aw) ?_
    refine(Bh) ?_
    refine(Q6) ?_
    exact af (cH V.iy rfl cX rfl rfl) ⟨by rw[hs,aa.jI hs dec];rfl,rfl⟩ (sub (.cons aL .nil) dC)
   ·refine(Q3) ?_
    obtain rfl:t=true:=ht.trans (decide_eq_true a1)
    refine(Q7) ?_
    refine(Q0) ?_
    refine(Ql) ?_
    refine(Q0) ?_
    refine(AO) ?_
    refine(Q0) ?_
    refine(oN) ?_
    refine(Qc) ?_
    refine(Q0) ?_
    refine(mv) ?_
    refine(Q0) ?_
    refine(m8) ?_
    refine(Q0) ?_
    refine(Dq) ?_
    refine(Qc) ?_
    refine(Q0) ?_
    refine(mv) ?_
    refine(Q0) ?_
    refine(m8) ?_
    refine(Q0) ?_
    refine(He) ?_
    refine(Qc) ?_
    refine(Q0) ?_
    refine(mv) ?_
    refine(Q0) ?_
    refine(m8) ?_
    refine(Q0) ?_
    refine(M4) ?_
    refine(Qc) ?_
    refine(Q0) ?_
    refine(Ql) ?_
    refine(Q0) ?_
    refine oV (bC (bG rfl rfl) a6) ?_
    refine(Qc) ?_
    refine(Q0) ?_
    refine(Ql) ?_
    refine(Q0) ?_
    refine oV (bC (bG rfl rfl) a7) ?_
    refine(Qn) ?_
    refine(Ql) ?_
    refine(H7) ?_
    refine(Ql) ?_
    refine oC (mh (aC.bN B) (aC.bN (B.drop 4))) V.r4 rfl .nil rfl ?_
    refine(Qd) ?_
    refine oV (bQ (bO rfl rfl) a8) ?_
    refine(Q6) ?_
    refine(Aw) ?_
    refine(Q8) ?_
    refine(Bh)<|(Q6) ?_
    exact af (cH V.iy rfl cX rfl rfl) ⟨by rw[hs,aa.jI rfl hs2];rfl,rfl⟩ (sub (.cons aL .nil) dC)
   ·refine(Q3) ?_
    obtain rfl:t=true:=ht.trans (decide_eq_true a1)
    refine(Q7) ?_
    refine(Q0) ?_
    refine(Ql) ?_
    refine(Q0) ?_
    refine(AO) ?_
    refine(Q0) ?_
    refine(oN) ?_
    refine(Qc) ?_
    refine(Q0) ?_
    refine(mv) ?_
    refine(Q0) ?_
    refine(m8) ?_
    refine(Q0) ?_
    refine(Dq) ?_
    refine(Qc) ?_
    refine(Q0) ?_
    refine(mv) ?_
    refine(Q0) ?_
    refine(m8) ?_
    refine(Q0) ?_
    refine(He) ?_
    refine(Qc) ?_
    refine(Q0) ?_
    refine(mv) ?_
    refine(Q0) ?_
    refine(m8) ?_
    refine(Q0) ?_
    refine(M4) ?_
    refine(Qc) ?_
    refine(Q0) ?_
    refine(Ql) ?_
    refine(Q0) ?_
    refine oV (bC (bG rfl rfl) a6) ?_
    refine(Qc) ?_
    refine(Q0) ?_
    refine(Ql) ?_
    refine(Q0) ?_
    refine oV (bC (bG rfl rfl) a7) ?_
    refine(Qn) ?_
    refine(Ql) ?_
    refine(H7) ?_
    refine(Ql) ?_
    refine oC (mh (aC.bN B) (aC.bN (B.drop 4))) V.r4 rfl .nil rfl ?_
    refine(Qd) ?_
    refine oV (bC (bO rfl rfl) a8) ?_
    refine(Qd) ?_
    refine oV (bU V.iy rfl ay (vs:=[_,_,_,_,_]) rfl rfl) ?_
    refine(Bh) ?_
    refine(Q7) ?_
    exact af (cH V.iy rfl cX rfl rfl) ⟨by rw[hs,aa.pE hs];rfl,rfl⟩ (sub (.cons aL .nil) dC)
end Go.Proofs.YtmaiakpjgomnpaaGreat
namespace Go.Proofs.YtmaiakpjgomnpaaGreat
open Go.Sl
def V.Sf:gR Tryz.prog 90=some 9:=by kernel_rfl
def V.iS:bo Tryz.prog 90 0=some 0:=by kernel_rfl
def V.YL:bo Tryz.prog 90 1=some 5:=by kernel_rfl
def V.w6:bo Tryz.prog 90 2=some 6:=by kernel_rfl
def V.X1:bo Tryz.prog 90 3=some 7:=by kernel_rfl
def V.NT:bo Tryz.prog 90 4=some 8:=by kernel_rfl
def V.MA:cW Tryz.prog 90=some ([.int .i64 0,.int .i64 0,.int .i64 0,.int .i64 0,.bool false,.slice none 0 0,.slice none 0 0,.slice none 0 0,.slice none 0 0]):=by kernel_rfl
end Go.Proofs.YtmaiakpjgomnpaaGreat
namespace Go.Proofs.YtmaiakpjgomnpaaGreat
open Go.Sl 
attribute [local irreducible] ag.aq aa.bD aa.up aa.cL aa.gn aa.iE aa.deep aa.parts HW aa.aW aa.aR aa.ba aa.aY aa.bM aa.eZ aa.gK aa.oF aa.bd aa.bS
def CW{es:List Ce}{i:Nat}{kk:List Int}(hi:i≤es.length)(h:∀j:Nat,j<i→(aP.g es (j:Int)).k≠kk):∀j,j<i→∀c,(es.map Ce.ch)[j]?=some c→c.k≠kk:=fun j hj c hc=>by
 rw[nz omg] at hc
 cases hc
 exact h j hj
def xv{es:List Ce}{x:Ce}(hx:x∈es):∀w0 h,DK es w0 h→aE U5 x.p x.d.length x.d w0 h:=fun w0 h hh=>(hh x hx).rd
def KE(R:ad):∀w0 h,R w0 h→aE U5 none 0 [] w0 h:=fun _ _ _=>⟨rfl,rfl,.inl rfl⟩
structure sj where
 pp:Option Addr
 cp:Nat
 P:List Int
 pt:Option Addr
 ct:Nat
 T:List Int
 pd:Option Addr
 cd:Nat
 D:List Int
 hp:Bool
 ht:Bool
def oa (es:List Ce) (i:Nat) (s:sj):Prop:=s.P=aa.mY ((es.map Ce.ch).take i) aa.aR∧s.T=aa.mY ((es.map Ce.ch).take i) aa.ba∧s.D=aa.bS ((es.map Ce.ch).take i)∧s.hp=aa.eM ((es.map Ce.ch).take i) aa.aR∧s.ht=aa.eM ((es.map Ce.ch).take i) aa.ba∧s.P.length≤s.cp∧s.T.length≤s.ct∧(∀w0 h,DK es w0 h→aE U5 s.pp s.P.length s.P w0 h)∧∀w0 h,DK es w0 h→aE U5 s.pt s.T.length s.T w0 h
def Yh(es:List Ce):oa es 0 ⟨none,0,[],none,0,[],none,0,[],false,false⟩:=⟨rfl,rfl,by unfold aa.bS;rfl,rfl,rfl,Nat.le_refl _,Nat.le_refl _,KE _,KE _⟩
section
variable {es:List Ce} {i:Nat} {s:sj} {x:Ce} (hs:oa es i s) (hx:(es.map Ce.ch)[i]?=some x.ch)
include hs hx
def Xk(hk:x.k=aa.aR)(hm:x∈es)(ho:x.d.length≤x.c):oa es (i+1) {s with pp:=x.p,cp:=x.c,P:=x.d,hp:=true}:=by
 obtain⟨h1,h2,h3,h4,h5,h6,h7,h8,h9⟩:=hs
 have hk:x.ch.k=aa.aR:=hk
 refine⟨?_,?_,?_,?_,?_,ho,h7,xv hm,h9⟩
 ·rw[aa.l8 hx,if_pos hk];rfl
 ·rw[aa.l8 hx,if_neg (by rw[hk];exact aa.M3)];exact h2
 ·rw[aa.qv hx,if_neg (by rw[hk];exact aa.Vq)];exact h3
 ·rw[aa.nq hx,hk];simp
 ·rw[aa.nq hx,hk,←h5,beq_false_of_ne aa.M3,Bool.or_false]
def YQ(hk:x.k=aa.ba)(hm:x∈es)(ho:x.d.length≤x.c):oa es (i+1) {s with pt:=x.p,ct:=x.c,T:=x.d,ht:=true}:=by
 obtain⟨h1,h2,h3,h4,h5,h6,h7,h8,h9⟩:=hs
 have hk:x.ch.k=aa.ba:=hk
 refine⟨?_,?_,?_,?_,?_,h6,ho,h8,xv hm⟩
 ·rw[aa.l8 hx,if_neg (by rw[hk];exact aa.M3.symm)];exact h1
 ·rw[aa.l8 hx,if_pos hk];rfl
 ·rw[aa.qv hx,if_neg (by rw[hk];exact aa.VQ)];exact h3
 ·rw[aa.nq hx,hk,←h4,beq_false_of_ne aa.M3.symm,Bool.or_false]
 ·rw[aa.nq hx,hk];simp
def Of(hk:x.k=aa.aW)(p:Option Addr)(c:Nat):oa es (i+1) {s with pd:=p,cd:=c,D:=s.D++x.d}:=by
 obtain⟨h1,h2,h3,h4,h5,h6,h7,h8,h9⟩:=hs
 have hk:x.ch.k=aa.aW:=hk
 refine⟨?_,?_,?_,?_,?_,h6,h7,h8,h9⟩
 ·rw[aa.l8 hx,if_neg (by rw[hk];exact aa.Vq.symm)];exact h1
 ·rw[aa.l8 hx,if_neg (by rw[hk];exact aa.VQ.symm)];exact h2
 ·rw[aa.qv hx,if_pos hk,←h3];rfl
 ·rw[aa.nq hx,hk,←h4,beq_false_of_ne aa.Vq.symm,Bool.or_false]
 ·rw[aa.nq hx,hk,←h5,beq_false_of_ne aa.VQ.symm,Bool.or_false]
def Xh(k1:x.k≠aa.aR)(k2:x.k≠aa.ba)(k3:x.k≠aa.aW):oa es (i+1) s:=by
 obtain⟨h1,h2,h3,h4,h5,h6,h7,h8,h9⟩:=hs
 have k1:x.ch.k≠aa.aR:=k1
 have k2:x.ch.k≠aa.ba:=k2
 have k3:x.ch.k≠aa.aW:=k3
 refine⟨?_,?_,?_,?_,?_,h6,h7,h8,h9⟩
 ·rw[aa.l8 hx,if_neg k1];exact h1
 ·rw[aa.l8 hx,if_neg k2];exact h2
 ·rw[aa.qv hx,if_neg k3];exact h3
 ·rw[aa.nq hx,←h4];simp[k1]
 ·rw[aa.nq hx,←h5];simp[k2]
end

def DY(p:Option Addr)(c:Nat)(es:List Ce)(R:ad)(hR:∀w0 h,R w0 h→aE aP p es.length es w0 h)(hel:es.length≤262144)(hok:Hz es)(kk:List Int)(hk:ag.aq kk):aA Tryz.prog 45 [.slice p es.length c,.string (strOfNums kk)] [R] (aF fun v G=>∃q cq,v=.tuple #[.slice q (aa.bY (es.map Ce.ch) kk).length cq,.bool (aa.eM (es.map Ce.ch) kk)]∧(∀w0 h,DK es w0 h→aE U5 q (aa.bY (es.map Ce.ch) kk).length (aa.bY (es.map Ce.ch) kk) w0 h)∧G=[R]):=by
 refine ao [(0,_),(1,_)] Tryz.func45 rfl Tryz.ntmps45 rfl rfl ?_
 intro w0 F
 refine rT TT 13 rfl ?_
 refine cF (fun(i:Nat)=>[(0,.slice p es.length c),(1,.string (strOfNums kk)),(6,I6 (i:Int))]) (fun(i:Nat)=>R::F) (fun(i:Nat)=>i≤es.length∧∀j:Nat,j<i→(aP.g es (j:Int)).k≠kk) (fun(i:Nat)=>es.length-i) (i1 (0) ?_ (eo ln) (sub (an .nil) aj)) ?_
 ·exact⟨Nat.zero_le _,fun j hj=>by omega⟩
 intro i
 rintro⟨hi,hall⟩
 refine(pe) ?_
 refine av rfl (fun h10=>?_) (fun h10=>?_)
 ·refine(Q4) ?_
  rcases(Classical.em ((aP.g es (i:Int)).k=kk)) with hke|hke
  ·refine(Qa) ?_
   have hcx:=nz (es:=es) (i:=i) omg
   have hxo:=jl (i:=i) (fun x=>ag.aq x.k∧x.k.length<500000000) hok omg
   have hxk:ag.aq (aP.g es (i:Int)).k:=hxo.1
   have hxm:=jl (i:=i) (fun x=>x∈es) (fun x hx=>hx) omg
   refine(Q3)<|(ox)<|(qu)<|(uA)<|(Q8) ?_
   refine oV (fD (aa.aT hxk) (aa.aT hk) rfl rfl (decide_eq_true hke).symm)<|(Qd)<|(ox)<|(sY)<|(Iw)<|(Qg) ?_
   obtain⟨e1,e2⟩:=aa.BS hcx hke (CW omg hall)
   rw[e1,e2]
   exact af (bR rfl rfl) ⟨(aP.g es (i:Int)).p,(aP.g es (i:Int)).c,rfl,xv hxm,rfl⟩ (sub (an .nil) aj)
  ·refine(Qa) ?_
   have hcx:=nz (es:=es) (i:=i) omg
   have hxo:=jl (i:=i) (fun x=>ag.aq x.k∧x.k.length<500000000) hok omg
   have hxk:ag.aq (aP.g es (i:Int)).k:=hxo.1
   have hxm:=jl (i:=i) (fun x=>x∈es) (fun x hx=>hx) omg
   refine(Q3)<|(ox)<|(qu)<|(uA)<|(Q8) ?_
   refine oV (fD (aa.aT hxk) (aa.aT hk) rfl rfl (decide_eq_false hke).symm)<|(zw) ?_
   refine j1 (i+1) ?_ (eo ln) (sub (an .nil) aj)
   exact⟨⟨omg,fun j hj=>(Nat.lt_succ_iff_lt_or_eq.1 hj).elim (hall j) (fun e=>e▸hke)⟩,omg⟩
 ·refine(qG) ?_
  obtain⟨e1,e2⟩:=aa.zX (k:=kk) (L:=(es.map Ce.ch)) (by rw[List.length_map];exact fun j hj=>CW hi hall j omg)
  rw[e1,e2]
  exact af (bR rfl rfl) ⟨none,0,rfl,KE _,rfl⟩ (sub (an .nil) aj)

def LM(p:Option Addr)(c:Nat)(es:List Ce)(R:ad)(hR:∀w0 h,R w0 h→aE CK p es.length es w0 h)(hel:es.length≤262144)(hok:Hz es)(hco:∀y∈es,Ee y)(hsum:aa.kn (es.map Ce.ch)<500000000):aA Tryz.prog 39 [.slice p es.length c] [R,DK es] (aF fun v G=>∃s:sj,oa es es.length s∧v=.tuple #[.agg #[I6 0,I6 0,I6 0,I6 0,.bool false,.slice s.pp s.P.length s.cp,.slice s.pt s.T.length s.ct,.slice s.pd s.D.length s.cd,.slice none 0 0],.bool s.hp,.bool s.ht]∧G=[Row U5 s.pd s.D.length s.cd s.D,R,DK es]):=by
 refine ao [(0,_)] Tryz.func39 rfl Tryz.ntmps39 rfl rfl ?_
 intro w0 F
 refine(QK) ?_
 refine de V.MA rfl ?_
 intro b2
 refine(Qq)<|(wc) ?_
 refine gx (fun(i:Nat) (s:sj)=>[(2,.pointer (soz b2)),(3,.bool s.hp),(4,.bool s.ht),(7,.slice p es.length c),(8,I6 (es.length:Int)),(9,I6 (i:Int))]) (fun(i:Nat) (s:sj)=>ai b2 90 [I6 0,I6 0,I6 0,I6 0,.bool false,.slice s.pp s.P.length s.cp,.slice s.pt s.T.length s.ct,.slice s.pd s.D.length s.cd,.slice none 0 0]::Row U5 s.pd s.D.length s.cd s.D::R::DK es::F) (fun(i:Nat) (s:sj)=>i≤es.length∧oa es i s) (fun(i:Nat) (s:sj)=>es.length-i) (i2 (0) (⟨none,0,[],none,0,[],none,0,[],false,false⟩) ?_ (iw (bb ln)) (sub (.cons ar (dV .nil)) aj)) ?_
 ·exact⟨Nat.zero_le _,Yh es⟩
 intro i s
 rintro⟨hi,hs⟩
 refine(Qs) ?_
 refine av rfl (fun h10=>?_) (fun h10=>?_)
 ·refine(Qb) ?_
  have hcx:(es.map Ce.ch)[i]?=some (CK.g es (i:Int)).ch:=nz (es:=es) (i:=i) omg
  have hxo:=jl (i:=i) (fun x=>ag.aq x.k∧x.k.length<500000000) hok omg
  have hxk:ag.aq (CK.g es (i:Int)).k:=hxo.1
  have hxm:(CK.g es (i:Int))∈es:=jl (i:=i) (fun x=>x∈es) (fun x hx=>hx) omg
  have hxc:(CK.g es (i:Int)).d.length≤(CK.g es (i:Int)).c:=hco _ hxm
  refine(QF) ?_
  refine oV (xI V.vz (by exact bK hR dz))<|oV (mU (c:=(CK)) V.qg rfl (by exact bK hR dz) omg omg rfl)<|(Bv) ?_
  intro b6
  refine(vZ)<|(Q9) ?_
  rcases((by by_cases h0:(CK.g es (i:Int)).k=aa.aR;exact .inl h0;by_cases h1:(CK.g es (i:Int)).k=aa.ba;exact .inr (.inl ⟨h0,h1⟩);by_cases h2:(CK.g es (i:Int)).k=aa.aW;exact .inr (.inr (.inl ⟨h0,h1,h2⟩));exact .inr (.inr (.inr ⟨h0,h1,h2⟩)):(CK.g es (i:Int)).k=aa.aR∨((CK.g es (i:Int)).k≠aa.aR∧(CK.g es (i:Int)).k=aa.ba)∨((CK.g es (i:Int)).k≠aa.aR∧(CK.g es (i:Int)).k≠aa.ba∧(CK.g es (i:Int)).k=aa.aW)∨((CK.g es (i:Int)).k≠aa.aR∧(CK.g es (i:Int)).k≠aa.ba∧(CK.g es (i:Int)).k≠aa.aW))) with a0|⟨a0,a1⟩|⟨a0,a1,a2⟩|⟨a0,a1,a2⟩
  ·refine(Q3)<|(uN) ?_
   refine oV (fD (aa.aT hxk) (aa.aT aa.mQ) rfl (show au _ _=some (.string (strOfNums aa.aR)) by unfold aa.aR;rfl) (decide_eq_true a0).symm)<|(Q1)<|(zo) ?_
   refine oV (bP V.YL rfl)<|(Q8d)<|(QU) ?_
   (exact j2 (i+1) {s with pp:=(CK.g es (i:Int)).p,cp:=(CK.g es (i:Int)).c,P:=(CK.g es (i:Int)).d,hp:=true} ⟨⟨omg,Xk hs hcx a0 hxm hxc⟩,omg⟩ (iw (bb ln)) (sub (.cons ar (.cons ar (.cons ar (.cons ar .nil)))) bg))
  ·refine(Q3)<|(uN)<|(UI)<|(Q1) ?_
   refine oV (fD (aa.aT hxk) (aa.aT aa.mD) rfl (show au _ _=some (.string (strOfNums aa.ba)) by unfold aa.ba;rfl) (decide_eq_true a1).symm)<|(Q1)<|(zo) ?_
   refine oV (bP V.w6 rfl)<|(Q8d)<|(QU) ?_
   (exact j2 (i+1) {s with pt:=(CK.g es (i:Int)).p,ct:=(CK.g es (i:Int)).c,T:=(CK.g es (i:Int)).d,ht:=true} ⟨⟨omg,YQ hs hcx a1 hxm hxc⟩,omg⟩ (iw (bb ln)) (sub (.cons ar (.cons ar (.cons ar (.cons ar .nil)))) bg))
  ·refine(Q3)<|(uN)<|(UI)<|(Q1)<|(Q8e)<|(Q1)<|(Ob)<|(Q7) ?_
   have hd1:=aa.mA ((es.map Ce.ch).take (i+1))
   have hd2:=aa.sX (es.map Ce.ch) (i+1)
   rw[←(Of hs hcx a2 none 0).2.2.1] at hd1
   have hd3:(s.D++(CK.g es (i:Int)).d).length=s.D.length+(CK.g es (i:Int)).d.length:=List.length_append
   have hd4:s.D.length+(CK.g es (i:Int)).d.length<500000000:=by rw[←hd3];exact Nat.lt_of_le_of_lt hd1 omg
   refine(Q5)<|(yX)<|(tx)<|(zo) ?_
   refine ei (c:=(U5)) V.bT V.z5 rfl rfl rfl rfl aL (Vs (f:=WC) ic hxm) omg rfl ?_
   intro p31 c31
   refine oV (bP V.X1 rfl)<|(Z9)<|(QP) ?_
   (rw[←List.length_append];exact j2 (i+1) {s with pd:=p31,cd:=c31,D:=s.D++(CK.g es (i:Int)).d} ⟨⟨omg,Of hs hcx a2 _ _⟩,omg⟩ (iw (bb ln)) (sub (.cons aL (an (.cons ar (.cons ar .nil)))) bg))
  ·refine(Q3)<|(uN)<|(UI)<|(Q1)<|(Q8e)<|(Q1)<|(wa)<|(Co) ?_
   (exact j2 (i+1) s ⟨⟨omg,Xh hs hcx a0 a1 a2⟩,omg⟩ (iw (bb ln)) (sub (.cons ar (.cons ar (.cons ar (.cons ar .nil)))) bg))
 ·refine(Qf) ?_
  obtain rfl:i=es.length:=omg
  refine(QF) ?_
  refine oV (bU V.Sf rfl ay (vs:=[_,_,_,_,_,_,_,_,_]) rfl rfl)<|(Q9)<|(Mf)<|(Q6) ?_
  exact af (rh V.Sf rfl ay rfl rfl rfl) ⟨s,hs,rfl,rfl⟩ (sub (.cons ar (.cons ar (.cons ar .nil))) bg)

def I0(h:aa.Hd)(hd:aa.jz h.dep)(bf:Nat)(pp:Option Addr)(pl:List Int)(cp:Nat)(pt:Option Addr)(tr:List Int)(ct:Nat)(pd:Option Addr)(nd cd:Nat)(pk:Option Addr)(nk ck:Nat)(hl:pl.length<500000000)(t:Bool)(ht:t=decide (aa.eZ h pl false)):aA Tryz.prog 40 [.pointer (soz bf),.bool false] [ai bf 90 (hVz h.w h.h h.dep h.ak h.aV pp pl.length cp pt tr.length ct [.slice pd nd cd,.slice pk nk ck])] (aF fun v G=>v=.bool t∧G=[ai bf 90 (hVz h.w h.h h.dep h.ak h.aV pp pl.length cp pt tr.length ct [.slice pd nd cd,.slice pk nk ck])]):=by
 refine ao [(0,_),(1,_)] Tryz.func40 rfl Tryz.ntmps40 rfl rfl ?_
 intro w0 F
 obtain⟨P,hP⟩:∃P:Int,P=2^h.dep.toNat:=⟨_,rfl⟩
 have hpb:2≤P∧P≤65536:=hP▸aa.lQ hd
 have hdi:=aa.iz hd
 refine(uL)<|(zo) ?_
 refine rO TT 20 rfl<|(Ql)<|(Qd) ?_
 obtain rfl:t=decide (h.ak≠3):=ht.trans (decide_eq_decide.2 (aa.RV h pl))
 exact af (aw rfl) ⟨rfl,rfl⟩ (sub (an .nil) aj)

def Ik(h:aa.Hd)(hd:aa.jz h.dep)(bf:Nat)(pp:Option Addr)(pl:List Int)(cp:Nat)(pt:Option Addr)(tr:List Int)(ct:Nat)(pd:Option Addr)(nd cd:Nat)(pk:Option Addr)(nk ck:Nat)(hl:pl.length<500000000)(t:Bool)(ht:t=decide (aa.eZ h pl true)):aA Tryz.prog 40 [.pointer (soz bf),.bool true] [ai bf 90 (hVz h.w h.h h.dep h.ak h.aV pp pl.length cp pt tr.length ct [.slice pd nd cd,.slice pk nk ck])] (aF fun v G=>v=.bool t∧G=[ai bf 90 (hVz h.w h.h h.dep h.ak h.aV pp pl.length cp pt tr.length ct [.slice pd nd cd,.slice pk nk ck])]):=by
 refine ao [(0,_),(1,_)] Tryz.func40 rfl Tryz.ntmps40 rfl rfl ?_
 intro w0 F
 obtain⟨P,hP⟩:∃P:Int,P=2^h.dep.toNat:=⟨_,rfl⟩
 have hpb:2≤P∧P≤65536:=hP▸aa.lQ hd
 have hdi:=aa.iz hd
 refine(uL)<|(zo)<|(Q1) ?_
 rcases(aa.Ha (plte:=pl) hP) with⟨a1,a⟩|⟨a1,a2,a⟩|⟨a1,a2,a3,a4,a⟩|⟨a1,a2,a3,a4,a⟩|⟨a1,a2,a3,a⟩
 ·refine(r6)<|(Ql)<|(CS) ?_
  refine rO TT 20 rfl ?_
  obtain rfl:t=false:=ht.trans (decide_eq_false a)
  exact af (aw rfl) ⟨rfl,rfl⟩ (sub (an .nil) aj)
 ·refine(r6)<|(Ql)<|(n4)<|(sx)<|(nX)<|(D8)<|(Qq) ?_
  obtain rfl:t=false:=ht.trans (decide_eq_false a)
  exact af (aw rfl) ⟨rfl,rfl⟩ (sub (an .nil) aj)
 ·refine(r6)<|(Ql)<|(n4)<|(sx)<|(nX)<|(oN)<|(Qj)<|(Ql) ?_
  refine oV (bQ (bG rfl rfl) a3)<|(Qm)<|(qO)<|(WT)<|(AI)<|(Q0) ?_
  refine oV (bQ (cR rfl rfl) a4)<|(Qq) ?_
  obtain rfl:t=false:=ht.trans (decide_eq_false a)
  exact af (aw rfl) ⟨rfl,rfl⟩ (sub (an .nil) aj)
 ·refine(r6)<|(Ql)<|(n4)<|(sx)<|(nX)<|(oN)<|(Qj)<|(Ql) ?_
  refine oV (bQ (bG rfl rfl) a3)<|(Qm)<|(qO)<|(WT)<|(AI)<|(Q0) ?_
  refine oV (bC (cR rfl rfl) a4)<|(Qe) ?_
  rcases(aa.UD pl.length) with c1|⟨c1,c2⟩|⟨c1,c2⟩
  ·refine(Q3)<|(oU)<|(QA)<|(Qq) ?_
   (obtain rfl:t=false:=ht.trans (decide_eq_false (fun q=>by have:=a.1 q;omega));exact af (G:=[ai bf 90 (hVz h.w h.h h.dep h.ak h.aV pp pl.length cp pt tr.length ct [.slice pd nd cd,.slice pk nk ck])]) (aw rfl) ⟨rfl,rfl⟩ (sub (an .nil) aj))
  ·refine(Q3) ?_
   refine(oU) ?_
   refine(QD) ?_
   refine(Q9) ?_
   refine(Q0) ?_
   refine(Qo) ?_
   refine(Qg) ?_
   (obtain rfl:t=false:=ht.trans (decide_eq_false (fun q=>by have:=a.1 q;omega));exact af (G:=[ai bf 90 (hVz h.w h.h h.dep h.ak h.aV pp pl.length cp pt tr.length ct [.slice pd nd cd,.slice pk nk ck])]) (aw rfl) ⟨rfl,rfl⟩ (sub (an .nil) aj))
  ·refine(Q3) ?_
   refine(oU) ?_
   refine(QD) ?_
   refine(Q9) ?_
   refine(Q0) ?_
   refine(Qp) ?_
   refine(Qc) ?_
   refine(Q0) ?_
   refine(qO) ?_
   refine(Q1) ?_
   (obtain rfl:t=decide ((pl.length:Int)/3≤256):=ht.trans (decide_eq_decide.2 (a.trans omg));exact af (G:=[ai bf 90 (hVz h.w h.h h.dep h.ak h.aV pp pl.length cp pt tr.length ct [.slice pd nd cd,.slice pk nk ck])]) (aw rfl) ⟨rfl,rfl⟩ (sub (an .nil) aj))
 ·refine(r6)<|(Ql)<|(n4)<|(sx)<|(nX)<|(oN)<|(Qj)<|(Ql) ?_
  refine oV (bC (bG rfl rfl) a3)<|(qK) ?_
  rcases(aa.UD pl.length) with c1|⟨c1,c2⟩|⟨c1,c2⟩
  ·refine(Q3)<|(oU)<|(QA)<|(Qq) ?_
   (obtain rfl:t=false:=ht.trans (decide_eq_false (fun q=>by have:=a.1 q;omega));exact af (G:=[ai bf 90 (hVz h.w h.h h.dep h.ak h.aV pp pl.length cp pt tr.length ct [.slice pd nd cd,.slice pk nk ck])]) (aw rfl) ⟨rfl,rfl⟩ (sub (an .nil) aj))
  ·refine(Q3) ?_
   refine(oU) ?_
   refine(QD) ?_
   refine(Q9) ?_
   refine(Q0) ?_
   refine(Qo) ?_
   refine(Qg) ?_
   (obtain rfl:t=false:=ht.trans (decide_eq_false (fun q=>by have:=a.1 q;omega));exact af (G:=[ai bf 90 (hVz h.w h.h h.dep h.ak h.aV pp pl.length cp pt tr.length ct [.slice pd nd cd,.slice pk nk ck])]) (aw rfl) ⟨rfl,rfl⟩ (sub (an .nil) aj))
  ·refine(Q3) ?_
   refine(oU) ?_
   refine(QD) ?_
   refine(Q9) ?_
   refine(Q0) ?_
   refine(Qp) ?_
   refine(Qc) ?_
   refine(Q0) ?_
   refine(qO) ?_
   refine(Q1) ?_
   (obtain rfl:t=decide ((pl.length:Int)/3≤256):=ht.trans (decide_eq_decide.2 (a.trans omg));exact af (G:=[ai bf 90 (hVz h.w h.h h.dep h.ak h.aV pp pl.length cp pt tr.length ct [.slice pd nd cd,.slice pk nk ck])]) (aw rfl) ⟨rfl,rfl⟩ (sub (an .nil) aj))

def Fc(h:aa.Hd)(hd:aa.jz h.dep)(bf:Nat)(pp:Option Addr)(pl:List Int)(cp:Nat)(pt:Option Addr)(tr:List Int)(ct:Nat)(pd:Option Addr)(nd cd:Nat)(hpl:pl.length<500000000)(htr:tr=[])(htl:tr.length<500000000)(hB:ag.aq tr)(t:Bool)(ht:t=true):aA Tryz.prog 41 [.pointer (soz bf),.bool false] [ai bf 90 (hVz h.w h.h h.dep h.ak h.aV pp pl.length cp pt tr.length ct [.slice pd nd cd,.slice none 0 0])] (aF fun v G=>∃pk nk ck K,(t=true→K=aa.bd h tr)∧K.length=nk∧v=.bool t∧G=[ai bf 90 (hVz h.w h.h h.dep h.ak h.aV pp pl.length cp pt tr.length ct [.slice pd nd cd,.slice pk nk ck]),Row (aK 3 .i64) pk nk ck K]):=by
 refine ao [(0,_),(1,_)] Tryz.func41 rfl Tryz.ntmps41 rfl rfl ?_
 intro w0 F
 refine rT TT 20 rfl ?_
 subst ht
 exact af (aw rfl) ⟨none,0,0,[],(fun _=>by rw[htr,aa.uk]),rfl,rfl,rfl⟩ ((bH (A:=Row (aK 3 .i64) none 0 0 []) (fun w0=>Row.nil _ _ _)).trans (sub (.cons ar (an .nil)) aj))

def Fe(h:aa.Hd)(hd:aa.jz h.dep)(bf:Nat)(pp:Option Addr)(pl:List Int)(cp:Nat)(pt:Option Addr)(tr:List Int)(ct:Nat)(pd:Option Addr)(nd cd:Nat)(hpl:pl.length<500000000)(htl:tr.length<500000000)(hB:ag.aq tr)(R:ad)(hR:∀w0 h,R w0 h→aE U5 pt tr.length tr w0 h)(t:Bool)(ht:t=decide (aa.gK h pl tr true)):aA Tryz.prog 41 [.pointer (soz bf),.bool true] [ai bf 90 (hVz h.w h.h h.dep h.ak h.aV pp pl.length cp pt tr.length ct [.slice pd nd cd,.slice none 0 0]),R] (aF fun v G=>∃pk nk ck K,(t=true→K=aa.bd h tr)∧K.length=nk∧v=.bool t∧G=[ai bf 90 (hVz h.w h.h h.dep h.ak h.aV pp pl.length cp pt tr.length ct [.slice pd nd cd,.slice pk nk ck]),Row (aK 3 .i64) pk nk ck K,R]):=by
 refine ao [(0,_),(1,_)] Tryz.func41 rfl Tryz.ntmps41 rfl rfl ?_
 intro w0 F
 obtain⟨P,hP⟩:∃P:Int,P=2^h.dep.toNat:=⟨_,rfl⟩
 have hpb:2≤P∧P≤65536:=hP▸aa.lQ hd
 have hdi:=aa.iz hd
 refine rT TT 15 rfl ?_
 refine gv (fun(u:Unit)=>[(0,.pointer (soz bf))]) (fun(u:Unit)=>ai bf 90 (hVz h.w h.h h.dep h.ak h.aV pp pl.length cp pt tr.length ct [.slice pd nd cd,.slice none 0 0])::R::F) (fun(u:Unit)=>(h.ak=0∨h.ak=2)∧tr.length=2*(aa.parts h.ak).toNat∧1≤aa.parts h.ak∧aa.parts h.ak≤3∧aa.gK h pl tr true) ?_ ?_
 ·rcases(aa.Un h pl tr) with⟨a1,a⟩|⟨a1,a2,a3,a⟩|⟨a1,a2,a3,a⟩|⟨a1,a2,a4,a3,a⟩|⟨a1,a2,a4,a3,a⟩|⟨a1,a2,a4,a⟩
  ·refine(Qs)<|(uz)<|(CS)<|(Q6)<|(jV) ?_
   refine rR TT 3 rfl<|(Dr) ?_
   refine rR TT 4 rfl<|(Dr) ?_
   refine oR (lA (ty':=0) Tryz.underlying22 rfl)<|(WI)<|(Qw)<|(lq) ?_
   refine rN TT 4 rfl ?_
   obtain rfl:t=decide ((tr.length:Int)≤(pl.length:Int)/3):=ht.trans (decide_eq_decide.2 (a.trans omg))
   exact af (aw rfl) ⟨none,0,0,[],(fun _=>by rw[aa.Xv omg]),rfl,rfl,rfl⟩ ((bH (A:=Row (aK 3 .i64) none 0 0 []) (fun w0=>Row.nil _ _ _)).trans (sub (.cons ar (aJ .nil)) aj))
  ·refine(Qs)<|(uz)<|(n4)<|(Qd)<|(D8)<|(Qe) ?_
   have hpp:aa.parts h.ak=1:=by rw[a2];unfold aa.parts;rfl
   refine wN [pz 0 [] [0],pz 1 [0] [],pz 3 [1] [],pz 7 [2] [],pz 15 [3] [],pz 0 [] [0],pz 32 [5] [],pz 96 [6] [],pz 224 [7] [],pz 480 [8] [],pz 992 [9] [],pz 2016 [10] [],pz 4095 [4,11] []] [⟨fun y=>ai bf 90 (hVz h.w h.h h.dep h.ak h.aV pp pl.length cp pt tr.length ct [.slice pd nd cd,.slice none 0 0]),none,none,[3,9]⟩,⟨fun y=>R,none,none,[]⟩] F V.mixed ?_
   refine nM ?_
   refine nN ?_
   refine nG V.w6 ?_
   refine nR (fun y FF hA=>aB V.kO rfl ay rfl) ?_
   refine nV (fun y hA L=>lA (ty':=0) Tryz.underlying22 rfl) ?_
   refine nM ?_
   refine nN ?_
   refine nG V.iS ?_
   refine nG V.tL ?_
   refine nR (fun y FF hA=>aB V.s3 rfl ay rfl) ?_
   refine nE (fun y FF hA=>aO (Post:=[]) (gV h.ak) V.pg rfl .nil (fun v G h=>by rcases h with⟨rfl,rfl⟩;exact⟨rfl,.refl _⟩)) ?_
   refine nV (fun y hA L=>fR rfl rfl wI) ?_
   refine nV (fun y hA L=>bQ (bO rfl rfl) omg) ?_
   refine cZ ?_
   intro y hA
   clear hA
   refine bJ ?_
   refine bW _ (.cons (d:=0) rfl (.cons (d:=42) rfl (.nil _))) ?_
   refine bA (M:=ai bf 90 (hVz h.w h.h h.dep h.ak h.aV pp pl.length cp pt tr.length ct [.slice pd nd cd,.slice none 0 0])::R::F) (fun _ _ h=>h) ?_
   refine rC TT 9 rfl ?_
   obtain rfl:t=false:=ht.trans (decide_eq_false a)
   exact af (aw rfl) ⟨none,0,0,[],(fun q=>by cases q),rfl,rfl,rfl⟩ ((bH (A:=Row (aK 3 .i64) none 0 0 []) (fun w0=>Row.nil _ _ _)).trans (sub (.cons ar (aJ .nil)) aj))
  ·refine(Qs)<|(uz)<|(n4)<|(Qd)<|(D8)<|(Qe) ?_
   have hpp:aa.parts h.ak=1:=by rw[a2];unfold aa.parts;rfl
   have hc2:h.ak=0∨h.ak=2:=.inl a2
   refine wN [pz 0 [] [0],pz 1 [0] [],pz 3 [1] [],pz 7 [2] [],pz 15 [3] [],pz 0 [] [0],pz 32 [5] [],pz 96 [6] [],pz 224 [7] [],pz 480 [8] [],pz 992 [9] [],pz 2016 [10] [],pz 4095 [4,11] []] [⟨fun y=>ai bf 90 (hVz h.w h.h h.dep h.ak h.aV pp pl.length cp pt tr.length ct [.slice pd nd cd,.slice none 0 0]),none,none,[3,9]⟩,⟨fun y=>R,none,none,[]⟩] F V.mixed ?_
   refine nM ?_
   refine nN ?_
   refine nG V.w6 ?_
   refine nR (fun y FF hA=>aB V.kO rfl ay rfl) ?_
   refine nV (fun y hA L=>lA (ty':=0) Tryz.underlying22 rfl) ?_
   refine nM ?_
   refine nN ?_
   refine nG V.iS ?_
   refine nG V.tL ?_
   refine nR (fun y FF hA=>aB V.s3 rfl ay rfl) ?_
   refine nE (fun y FF hA=>aO (Post:=[]) (gV h.ak) V.pg rfl .nil (fun v G h=>by rcases h with⟨rfl,rfl⟩;exact⟨rfl,.refl _⟩)) ?_
   refine nV (fun y hA L=>fR rfl rfl wI) ?_
   refine nV (fun y hA L=>bC (bO rfl rfl) omg) ?_
   refine cZ ?_
   intro y hA
   clear hA
   refine bJ ?_
   refine bW _ (.cons (d:=0) rfl (.cons (d:=42) rfl (.nil _))) ?_
   refine bA (M:=ai bf 90 (hVz h.w h.h h.dep h.ak h.aV pp pl.length cp pt tr.length ct [.slice pd nd cd,.slice none 0 0])::R::F) (fun _ _ h=>h) ?_
   refine rC TT 3 rfl ?_
   refine j1 (()) ?_ (iw ln) (sub (aJ .nil) aj)
   exact⟨hc2,omg,omg,omg,a⟩
  ·refine(Qs)<|(uz)<|(n4)<|(Qd)<|(oN)<|(Q6) ?_
   refine oV (bQ (bG rfl rfl) a4)<|(Q6) ?_
   have hpp:aa.parts h.ak=3:=by rw[a4];unfold aa.parts;rfl
   refine wN [pz 0 [] [0],pz 1 [0] [],pz 3 [1] [],pz 7 [2] [],pz 15 [3] [],pz 0 [] [0],pz 32 [5] [],pz 96 [6] [],pz 224 [7] [],pz 480 [8] [],pz 992 [9] [],pz 2016 [10] [],pz 4095 [4,11] []] [⟨fun y=>ai bf 90 (hVz h.w h.h h.dep h.ak h.aV pp pl.length cp pt tr.length ct [.slice pd nd cd,.slice none 0 0]),none,none,[3,9]⟩,⟨fun y=>R,none,none,[]⟩] F V.mixed ?_
   refine nM ?_
   refine nN ?_
   refine nG V.w6 ?_
   refine nR (fun y FF hA=>aB V.kO rfl ay rfl) ?_
   refine nV (fun y hA L=>lA (ty':=0) Tryz.underlying22 rfl) ?_
   refine nM ?_
   refine nN ?_
   refine nG V.iS ?_
   refine nG V.tL ?_
   refine nR (fun y FF hA=>aB V.s3 rfl ay rfl) ?_
   refine nE (fun y FF hA=>aO (Post:=[]) (gV h.ak) V.pg rfl .nil (fun v G h=>by rcases h with⟨rfl,rfl⟩;exact⟨rfl,.refl _⟩)) ?_
   refine nV (fun y hA L=>fR rfl rfl wI) ?_
   refine nV (fun y hA L=>bQ (bO rfl rfl) omg) ?_
   refine cZ ?_
   intro y hA
   clear hA
   refine bJ ?_
   refine bW _ (.cons (d:=0) rfl (.cons (d:=42) rfl (.nil _))) ?_
   refine bA (M:=ai bf 90 (hVz h.w h.h h.dep h.ak h.aV pp pl.length cp pt tr.length ct [.slice pd nd cd,.slice none 0 0])::R::F) (fun _ _ h=>h) ?_
   refine rC TT 9 rfl ?_
   obtain rfl:t=false:=ht.trans (decide_eq_false a)
   exact af (aw rfl) ⟨none,0,0,[],(fun q=>by cases q),rfl,rfl,rfl⟩ ((bH (A:=Row (aK 3 .i64) none 0 0 []) (fun w0=>Row.nil _ _ _)).trans (sub (.cons ar (aJ .nil)) aj))
  ·refine(Qs)<|(uz)<|(n4)<|(Qd)<|(oN)<|(Q6) ?_
   refine oV (bQ (bG rfl rfl) a4)<|(Q6) ?_
   have hpp:aa.parts h.ak=3:=by rw[a4];unfold aa.parts;rfl
   have hc2:h.ak=0∨h.ak=2:=.inr a4
   refine wN [pz 0 [] [0],pz 1 [0] [],pz 3 [1] [],pz 7 [2] [],pz 15 [3] [],pz 0 [] [0],pz 32 [5] [],pz 96 [6] [],pz 224 [7] [],pz 480 [8] [],pz 992 [9] [],pz 2016 [10] [],pz 4095 [4,11] []] [⟨fun y=>ai bf 90 (hVz h.w h.h h.dep h.ak h.aV pp pl.length cp pt tr.length ct [.slice pd nd cd,.slice none 0 0]),none,none,[3,9]⟩,⟨fun y=>R,none,none,[]⟩] F V.mixed ?_
   refine nM ?_
   refine nN ?_
   refine nG V.w6 ?_
   refine nR (fun y FF hA=>aB V.kO rfl ay rfl) ?_
   refine nV (fun y hA L=>lA (ty':=0) Tryz.underlying22 rfl) ?_
   refine nM ?_
   refine nN ?_
   refine nG V.iS ?_
   refine nG V.tL ?_
   refine nR (fun y FF hA=>aB V.s3 rfl ay rfl) ?_
   refine nE (fun y FF hA=>aO (Post:=[]) (gV h.ak) V.pg rfl .nil (fun v G h=>by rcases h with⟨rfl,rfl⟩;exact⟨rfl,.refl _⟩)) ?_
   refine nV (fun y hA L=>fR rfl rfl wI) ?_
   refine nV (fun y hA L=>bC (bO rfl rfl) omg) ?_
   refine cZ ?_
   intro y hA
   clear hA
   refine bJ ?_
   refine bW _ (.cons (d:=0) rfl (.cons (d:=42) rfl (.nil _))) ?_
   refine bA (M:=ai bf 90 (hVz h.w h.h h.dep h.ak h.aV pp pl.length cp pt tr.length ct [.slice pd nd cd,.slice none 0 0])::R::F) (fun _ _ h=>h) ?_
   refine rC TT 3 rfl ?_
   refine j1 (()) ?_ (iw ln) (sub (aJ .nil) aj)
   exact⟨hc2,omg,omg,omg,a⟩
  ·refine(Qs)<|(uz)<|(n4)<|(Qd)<|(oN)<|(Q6)<|(MT)<|(Qy) ?_
   obtain rfl:t=false:=ht.trans (decide_eq_false a)
   exact af (aw rfl) ⟨none,0,0,[],(fun q=>by cases q),rfl,rfl,rfl⟩ ((bH (A:=Row (aK 3 .i64) none 0 0 []) (fun w0=>Row.nil _ _ _)).trans (sub (.cons ar (aJ .nil)) aj))
 ·intro u
  rintro⟨hc2,htp,hp1,hp3,hC⟩
  refine(Qb)<|(zo) ?_
  refine aQ (Bx pt ct tr R hR htl) V.Oa rfl (.cons ar .nil) rfl ?_
  rintro _ _ ⟨bx,rfl,rfl⟩
  refine(Qg)<|(QY) ?_
  refine oC (gV h.ak) V.pg rfl .nil rfl<|(Q7) ?_
  refine gL (Row (aK 3 .i64) none 0 0 []) (Row.nil _ _ _) ?_
  rw[show([]:List Int)=(aa.bd h tr).take 0 from rfl]
  refine dP (fun(k:Nat) (pk:Option Addr) (ck:Nat)=>[(0,.pointer (soz bf)),(5,.pointer (soz bx)),(53,I6 (aa.parts h.ak)),(54,I6 (k:Int))]) (fun(k:Nat) (pk:Option Addr) (ck:Nat)=>ai bf 90 (hVz h.w h.h h.dep h.ak h.aV pp pl.length cp pt tr.length ct [.slice pd nd cd,.slice pk k ck])::Row (aK 3 .i64) pk k ck ((aa.bd h tr).take k)::HW bx tr (16*k) [] 0::R::F) (fun(k:Nat) (pk:Option Addr) (ck:Nat)=>(k:Int)≤aa.parts h.ak) (fun(k:Nat) (pk:Option Addr) (ck:Nat)=>(aa.parts h.ak).toNat-k) (i3 (0) (none) (0) ?_ (cK ln) (sub (.cons cB (dV .nil)) aj)) ?_
  ·omega
  intro k pk ck
  rintro hk
  refine(Qs) ?_
  refine av rfl (fun h55=>?_) (fun h55=>?_)
  ·refine(Q4) ?_
   have hck:=aa.Yr (trns:=tr) hc2 omg (i:=k) omg
   refine jE [pz 0 [] [0],pz 0 [] [0],pz 2 [1] [],pz 6 [2] [],pz 14 [3] [],pz 0 [] [5],pz 32 [5] [],pz 0 [] [0],pz 128 [7] [],pz 384 [8] [],pz 896 [9] [],pz 1920 [10] [],pz 3968 [11] [],pz 8064 [12] [],pz 16352 [6,13] [],pz 32736 [14] [],pz 65534 [4,15] [],pz 131071 [0] [],pz 262143 [17] [],pz 524287 [18,16] []] [⟨fun y=>ai bf 90 (hVz h.w h.h h.dep h.ak h.aV pp pl.length cp pt tr.length ct [.slice pd nd cd,.slice pk k ck]),none,some 19,[4,11]⟩,⟨fun y=>Row (aK 3 .i64) pk k ck ((aa.bd h tr).take k),none,some 16,[]⟩,⟨fun y=>HW bx tr (16*k) [] 0,none,some 6,[]⟩,⟨fun y=>R,none,none,[]⟩,⟨fun y=>HW bx tr (16*k+16) [] 0,some 6,none,[]⟩,⟨fun y=>Row (I3) (some ⟨(iK (ej (y 15))),0,none⟩) 1 1 [((aa.cL tr (16*k) 16)%P)],some 15,none,[16]⟩,⟨fun y=>Row (I3) (ej (y 16)) (k+1) (fT (y 16)) (((aa.bd h tr).take k)++[((aa.cL tr (16*k) 16)%P)]),some 16,none,[]⟩,⟨fun y=>ai bf 90 (hVz h.w h.h h.dep h.ak h.aV pp pl.length cp pt tr.length ct [.slice pd nd cd,.slice (ej (y 16)) (k+1) (fT (y 16))]),some 19,none,[]⟩] F V.mixed (by kernel_rfl) rfl (fun _=>.refl _) (aU _ (aU _ (aU _ (aU _ (dq _ rfl (by intro y y2 h;rfl) (dq _ rfl (by intro y y2 h;simp only[h 15 (.inl rfl)]) (dq _ rfl (by intro y y2 h;simp only[h 16 (.inl rfl)]) (dq _ rfl (by intro y y2 h;simp only[h 16 (.inr dec)]) fw)))))))) ?_
   iterate 2 refine nM ?_
   refine nN ?_
   refine nG V.NT ?_
   refine(Vv) ?_
   refine nM ?_
   refine nE (fun y FF hA=>aO (Post:=[HW bx tr (16*k+16) [] 0]) (kR bx tr (16*k) [] 0 16 htl hB dec omg) V.vQ rfl (an .nil) (fun v G h=>by rcases h with⟨rfl,rfl⟩;exact⟨rfl,.refl _⟩)) ?_
   refine nM ?_
   refine nN ?_
   refine(Q0w) ?_
   refine nG V.zL ?_
   refine(Qz) ?_
   refine nV (fun y hA L=>fk (r:=P) rfl rfl omg ((aa.ym hd).trans hP.symm)) ?_
   refine(vW) ?_
   refine nV (fun y hA L=>iT (r:=((aa.cL tr (16*k) 16)%P)) rfl rfl (aa.DV hP hd (aa.Fk tr (16*k)))) ?_
   refine fh (fun y v=>.slice (some ⟨iK (ej v),0,none⟩) 1 1) (fun y v=>True) _ _ (fun y v=>[Row (I3) (some ⟨(iK (ej v)),0,none⟩) 1 1 [((aa.cL tr (16*k) 16)%P)]]) _ (fun y=>rfl) (fun y=>rfl) (fun y=>rfl) (fun y=>rfl) (fun y FF hA=>CT (vy (I3) ([((aa.cL tr (16*k) 16)%P)]) V.cy V.z3 rfl rfl rfl rfl rfl)) (by intros;rfl) (by intros;rfl) (by intros;rfl) (by intro y y2 h;simp only[h 15 (.inl rfl)]) (by intro y y2 h;rfl) ?_
   refine fh (fun y v=>.slice (ej v) (k+1) (fT v)) (fun y v=>True) _ _ (fun y v=>[Row (I3) (ej v) (k+1) (fT v) (((aa.bd h tr).take k)++[((aa.cL tr (16*k) 16)%P)])]) _ (fun y=>rfl) (fun y=>rfl) (fun y=>rfl) (fun y=>rfl) (fun y FF hA=>uj (pI (c:=(I3)) V.cy V.z3 rfl rfl rfl rfl dJ (own cX) omg) (.refl _)) (by intros;rfl) (by intros;rfl) (by intros;rfl) (by intro y y2 h;simp only[h 15 (.inr dec),h 16 (.inl rfl)]) (by intro y y2 h;rfl) ?_
   refine nN ?_
   refine nG V.NT ?_
   refine nE (fun y FF hA=>dm (ew V.mj rfl rfl rfl (by exact ft) (by exact Nat.le_of_ble_eq_true rfl) rfl) ⟨rfl,.refl _⟩) ?_
   refine(Qi) ?_
   intro y hA
   clear hA
   show ks _ _ _ _ (R::HW bx tr (16*k+16) [] 0::Row (I3) (some ⟨(iK (ej (y 15))),0,none⟩) 1 1 [((aa.cL tr (16*k) 16)%P)]::Row (I3) (ej (y 16)) (k+1) (fT (y 16)) (((aa.bd h tr).take k)++[((aa.cL tr (16*k) 16)%P)])::ai bf 90 (hVz h.w h.h h.dep h.ak h.aV pp pl.length cp pt tr.length ct [.slice pd nd cd,.slice (ej (y 16)) (k+1) (fT (y 16))])::F)
   generalize(iK (ej (y 15)))=b71
   generalize(ej (y 16))=p72
   generalize(fT (y 16))=c72
   refine(MP)<|(sF)<|(Q8) ?_
   refine ga ?_
   rw[show((aa.bd h tr).take k)++[((aa.cL tr (16*k) 16)%P)]=(aa.bd h tr).take (k+1) from by rw[hck.1,aa.JW hB,←hP]]
   exact j3 (k+1) _ _ ⟨omg,omg⟩ (cK ln) (sub (.cons gW (.cons cB (.cons ar (an .nil)))) bg)
  ·refine(lW) ?_
   obtain rfl:t=true:=ht.trans (decide_eq_true hC)
   have hcl:=aa.C4 (trns:=tr) hc2 omg
   obtain rfl:k=(aa.parts h.ak).toNat:=omg
   rw[←hcl,List.take_length]
   exact af (aw rfl) ⟨pk,_,ck,(aa.bd h tr),fun _=>rfl,rfl,rfl,rfl⟩ (sub (aJ (.cons ar .nil)) bg)

def vk(h:aa.Hd)(hd:aa.jz h.dep)(pp:Option Addr)(pl:List Int)(cp:Nat)(has:Bool)(pt:Option Addr)(tr:List Int)(ct:Nat)(is:Bool)(hpl:pl.length<500000000)(htl:tr.length<500000000)(t:Bool)(ht:t=decide (aa.oF h pl has tr is)):aA Tryz.prog 46 [.agg #[I6 h.w,I6 h.h,I6 h.dep,I6 h.ak,.bool h.aV],.slice pp pl.length cp,.bool has,.slice pt tr.length ct,.bool is] [] (aF fun v G=>v=.bool t∧G=[]):=by
 refine ao [(0,_),(1,_),(2,_),(3,_),(4,_)] Tryz.func46 rfl Tryz.ntmps46 rfl rfl ?_
 intro w0 F
 obtain⟨P,hP⟩:∃P:Int,P=2^h.dep.toNat:=⟨_,rfl⟩
 have hpb:2≤P∧P≤65536:=hP▸aa.lQ hd
 have hdi:=aa.iz hd
 refine(QK)<|(Tz) ?_
 intro b5
 refine(Qd)<|(qO)<|(Qc) ?_
 refine gv (fun(u:Unit)=>[(2,.bool has),(3,.slice pt tr.length ct),(4,.bool is),(5,.pointer (soz b5)),(11,I6 ((pl.length:Int)/3))]) (fun(u:Unit)=>ai b5 38 [I6 h.w,I6 h.h,I6 h.dep,I6 h.ak,.bool h.aV]::F) (fun(u:Unit)=>has=true→aa.eZ h pl true) ?_ ?_
 ·rcases(aa.VM (plte:=pl) hP has) with rfl|⟨rfl,a1,a⟩|⟨rfl,a1,a2,a⟩|⟨rfl,a1,a2,a3,a⟩|⟨rfl,a1,a2,a3,a4,a⟩|⟨rfl,a1,a2,a3,a4,a5,a⟩|⟨rfl,a1,a2,a3,a4,a5,a6,a7,a⟩|⟨rfl,a1,a2,a3,a4,a5,a6,a7,a⟩|⟨rfl,a1,a2,a3,a4,a5,a6,a⟩
  ·refine rL TT 44 rfl ?_
   refine j1 (()) ?_ (bb ln) (sub (an .nil) aj)
   exact fun q=>by cases q
  ·refine(lY)<|(Q0)<|(nX)<|(QD) ?_
   refine rO TT 43 rfl ?_
   obtain rfl:t=false:=ht.trans (decide_eq_false (fun q=>a ((aa.iA ..).1 q).1))
   exact af (aw rfl) ⟨rfl,rfl⟩ (sub .nil bg)
  ·refine(lY)<|(Q0)<|(I2)<|(Qm)<|(nX)<|(QD) ?_
   refine rO TT 39 rfl ?_
   obtain rfl:t=false:=ht.trans (decide_eq_false (fun q=>a ((aa.iA ..).1 q).1))
   exact af (aw rfl) ⟨rfl,rfl⟩ (sub .nil bg)
  ·refine(lY)<|(Q0)<|(I2)<|(Qm)<|(I2)<|(Qu)<|(oU)<|(Q0)<|(yZ) ?_
   refine rO TT 33 rfl ?_
   obtain rfl:t=false:=ht.trans (decide_eq_false (fun q=>a ((aa.iA ..).1 q).1))
   exact af (aw rfl) ⟨rfl,rfl⟩ (sub .nil bg)
  ·refine(lY)<|(Q0)<|(I2)<|(Qm)<|(I2)<|(Qu)<|(oU)<|(Q0)<|(QM)<|(Qk)<|(QG) ?_
   refine rO TT 29 rfl ?_
   obtain rfl:t=false:=ht.trans (decide_eq_false (fun q=>a ((aa.iA ..).1 q).1))
   exact af (aw rfl) ⟨rfl,rfl⟩ (sub .nil bg)
  ·refine(lY) ?_
   refine(Q0) ?_
   refine(Ql) ?_
   refine(Q0) ?_
   refine(QA) ?_
   refine(Q9) ?_
   refine(Q0) ?_
   refine(Ql) ?_
   refine(Q0) ?_
   refine(QA) ?_
   refine(Q7) ?_
   refine(Q0) ?_
   refine(oU) ?_
   refine(Q0) ?_
   refine(QM) ?_
   refine(Qc) ?_
   refine(Q0) ?_
   refine(QL) ?_
   refine(Qc) ?_
   refine(Q0) ?_
   refine(Qp) ?_
   refine rO TT 25 rfl ?_
   obtain rfl:t=false:=ht.trans (decide_eq_false (fun q=>a ((aa.iA ..).1 q).1))
   exact af (aw rfl) ⟨rfl,rfl⟩ (sub .nil bg)
  ·refine(lY) ?_
   refine(Q0) ?_
   refine(Ql) ?_
   refine(Q0) ?_
   refine(QA) ?_
   refine(Q9) ?_
   refine(Q0) ?_
   refine(Ql) ?_
   refine(Q0) ?_
   refine(QA) ?_
   refine(Q7) ?_
   refine(Q0) ?_
   refine(oU) ?_
   refine(Q0) ?_
   refine(QM) ?_
   refine(Qc) ?_
   refine(Q0) ?_
   refine(QL) ?_
   refine(Qc) ?_
   refine(Q0) ?_
   refine(Qo) ?_
   refine(Qc) ?_
   refine(Q0) ?_
   refine(Ql) ?_
   refine(Q0)<|(QD)<|(SF)<|(sk)<|(Q0)<|(AI)<|(Q0)<|(Qp)<|(Qq) ?_
   obtain rfl:t=false:=ht.trans (decide_eq_false (fun q=>a ((aa.iA ..).1 q).1))
   exact af (aw rfl) ⟨rfl,rfl⟩ (sub .nil bg)
  ·refine(lY) ?_
   refine(Q0) ?_
   refine(Ql) ?_
   refine(Q0) ?_
   refine(QA) ?_
   refine(Q9) ?_
   refine(Q0) ?_
   refine(Ql) ?_
   refine(Q0) ?_
   refine(QA) ?_
   refine(Q7) ?_
   refine(Q0) ?_
   refine(oU) ?_
   refine(Q0) ?_
   refine(QM) ?_
   refine(Qc) ?_
   refine(Q0) ?_
   refine(QL) ?_
   refine(Qc) ?_
   refine(Q0) ?_
   refine(Qo) ?_
   refine(Qc) ?_
   refine(Q0) ?_
   refine(Ql) ?_
   refine(Q0)<|(QD)<|(SF)<|(sk)<|(Q0)<|(AI)<|(Ai)<|(Qd) ?_
   refine j1 (()) ?_ (bb ln) (sub (an .nil) aj)
   exact fun _=>a
  ·refine(lY) ?_
   refine(Q0) ?_
   refine(Ql) ?_
   refine(Q0) ?_
   refine(QA) ?_
   refine(Q9) ?_
   refine(Q0) ?_
   refine(Ql) ?_
   refine(Q0) ?_
   refine(QA) ?_
   refine(Q7) ?_
   refine(Q0) ?_
   refine(oU) ?_
   refine(Q0) ?_
   refine(QM) ?_
   refine(Qc) ?_
   refine(Q0) ?_
   refine(QL) ?_
   refine(Qc) ?_
   refine(Q0) ?_
   refine(Qo) ?_
   refine(Qc) ?_
   refine(Q0) ?_
   refine(Ql) ?_
   refine(Q0)<|(QA)<|(QE) ?_
   refine j1 (()) ?_ (bb ln) (sub (an .nil) aj)
   exact fun _=>a
 ·intro u
  rintro hy
  refine gv (fun(u:Unit)=>[(3,.slice pt tr.length ct),(4,.bool is),(5,.pointer (soz b5)),(11,I6 ((pl.length:Int)/3))]) (fun(u:Unit)=>ai b5 38 [I6 h.w,I6 h.h,I6 h.dep,I6 h.ak,.bool h.aV]::F) (fun(u:Unit)=>aa.eZ h pl has) ?_ ?_
  ·rcases(aa.abZ h pl has hy) with⟨rfl,a1,a⟩|⟨rfl,a1,a⟩|⟨rfl,a1,a⟩|⟨rfl,a1,a⟩
   ·refine(nT)<|(Ql)<|(CS)<|(Qe) ?_
    refine j1 (()) ?_ (cK ln) (sub (an .nil) aj)
    exact a
   ·refine(nT)<|(Ql)<|(n4)<|(Qe) ?_
    refine j1 (()) ?_ (cK ln) (sub (an .nil) aj)
    exact a
   ·refine(nT)<|(Ql)<|(CS)<|(QE) ?_
    obtain rfl:t=false:=ht.trans (decide_eq_false (fun q=>a ((aa.iA ..).1 q).1))
    exact af (aw rfl) ⟨rfl,rfl⟩ (sub .nil bg)
   ·refine(nT)<|(Ql)<|(n4)<|(Qe) ?_
    refine j1 (()) ?_ (cK ln) (sub (an .nil) aj)
    exact a
  ·intro u
   rintro hA
   rcases(aa.VC h pl tr is) with⟨rfl,a⟩|⟨rfl,a1,a⟩|⟨rfl,a1,a2,a⟩|⟨rfl,a1,a2,a3,a⟩|⟨rfl,a1,a2,a3,a⟩
   ·refine rC TT 15 rfl ?_
    obtain rfl:t=true:=ht.trans (decide_eq_true ((aa.iA ..).2 ⟨hA,a⟩))
    exact af (aw rfl) ⟨rfl,rfl⟩ (sub .nil bg)
   ·refine(r6)<|(uz)<|(CS)<|(QC) ?_
    obtain rfl:t=decide ((tr.length:Int)=2):=ht.trans (decide_eq_decide.2 ((aa.iA ..).trans ⟨fun q=>a.1 q.2,fun q=>⟨hA,a.2 q⟩⟩))
    exact af (aw rfl) ⟨rfl,rfl⟩ (sub .nil bg)
   ·refine(r6)<|(uz)<|(n4)<|(Q1)<|(D8)<|(QC) ?_
    obtain rfl:t=decide ((tr.length:Int)=6):=ht.trans (decide_eq_decide.2 ((aa.iA ..).trans ⟨fun q=>a.1 q.2,fun q=>⟨hA,a.2 q⟩⟩))
    exact af (aw rfl) ⟨rfl,rfl⟩ (sub .nil bg)
   ·refine(r6)<|(uz)<|(n4)<|(Q1)<|(oN)<|(Q1) ?_
    refine oV (bQ (bG rfl rfl) a3)<|(QO) ?_
    obtain rfl:t=decide ((tr.length:Int)≤(pl.length:Int)/3):=ht.trans (decide_eq_decide.2 ((aa.iA ..).trans ⟨fun q=>a.1 q.2,fun q=>⟨hA,a.2 q⟩⟩))
    exact af (aw rfl) ⟨rfl,rfl⟩ (sub .nil bg)
   ·refine(r6)<|(uz)<|(n4)<|(Q1)<|(oN)<|(Q1) ?_
    refine oV (bC (bG rfl rfl) a3)<|(Qq) ?_
    obtain rfl:t=false:=ht.trans (decide_eq_false (fun q=>a ((aa.iA ..).1 q).2))
    exact af (aw rfl) ⟨rfl,rfl⟩ (sub .nil bg)
end Go.Proofs.YtmaiakpjgomnpaaGreat
namespace Go.Proofs.YtmaiakpjgomnpaaGreat
open Go.Sl
def V.gX:jP Tryz.prog 152=some (4,3,1):=by kernel_rfl
def V.Vt:az Tryz.prog 171=true:=by kernel_rfl
def V.Wq:az Tryz.prog 173=true:=by kernel_rfl
def V.FZ:az Tryz.prog 184=true:=by kernel_rfl
def V.nc:az Tryz.prog 90=true:=by kernel_rfl
def V.z152:cW Tryz.prog 152=some ([.int .i64 0,.int .i64 0,.int .i64 0,.int .i64 0]):=by kernel_rfl
end Go.Proofs.YtmaiakpjgomnpaaGreat
namespace Go.Proofs.YtmaiakpjgomnpaaGreat
open Go.Sl 
attribute [local irreducible] ag.aq aa.bD aa.up aa.cL aa.gn aa.iE aa.deep aa.parts HW aa.bd aa.gB aa.aM aa.oS aa.ky aa.fm

def DG(p1:Option Addr)(n1 c1:Nat)(L1:List Int)(hn1:L1.length=n1)(R1:ad)(hR1:∀w0 h,R1 w0 h→aE (aK 3 .i64) p1 n1 L1 w0 h)(p2:Option Addr)(n2 c2:Nat)(L2:List Int)(hn2:L2.length=n2)(R2:ad)(hR2:∀w0 h,R2 w0 h→aE (aK 3 .i64) p2 n2 L2 w0 h)(hs1:n1≤100000000)(t:Bool)(ht:t=decide (L1=L2)):aA Tryz.prog 173 [.slice p1 n1 c1,.slice p2 n2 c2] [R1,R2] (aF fun v G=>v=.bool t∧G=[R1,R2]):=by
  refine ao [(0,_),(1,_)] Tryz.func173 rfl Tryz.ntmps173 rfl rfl ?_
  intro w0 F
  refine(QV) ?_
  rcases(Classical.em (n1=n2)) with hne0|hne0
  ·
    refine(Qr)<|(QM)<|(QE) ?_
    refine cF (fun(i:Nat)=>[(0,.slice p1 n1 c1),(1,.slice p2 n2 c2),(12,I6 (n1:Int)),(13,I6 (i:Int))]) (fun(i:Nat)=>R1::R2::F) (fun(i:Nat)=>i≤n1∧∀j,j<i→L1.getD j 0=L2.getD j 0) (fun(i:Nat)=>n1-i) (i1 (0) ?_ (cK ln) (sub (aJ .nil) aj)) ?_
    ·
      exact⟨Nat.zero_le _,fun j hj=>by omega⟩
    intro i
    rintro⟨hi,hall⟩
    refine(Qs) ?_
    refine av rfl (fun h14=>?_) (fun h14=>?_)
    ·
      refine(QN) ?_
      rcases(Classical.em (((aK 3 .i64).g L1 (i:Int))≠((aK 3 .i64).g L2 (i:Int)))) with hne|hne
      ·
        refine(Qa)<|(ZP)<|(Q8T)<|(Qw)<|(Q8U) ?_
        refine oR (bQ (bO rfl rfl) hne)<|(lq) ?_
        refine rN TT 13 rfl ?_
        obtain rfl:t=false:=ht.trans (decide_eq_false (aa.Nq hne))
        exact af (aw rfl) ⟨rfl,rfl⟩ (sub (aJ .nil) aj)
      ·
        refine(Qa)<|(ZP)<|(Q8T)<|(Qw)<|(Q8U) ?_
        refine oR (bC (bO rfl rfl) hne)<|(lq) ?_
        refine Ug TT 9 rfl omg ?_
        refine j1 (i+1) ?_ (cK ln) (sub (aJ .nil) aj)
        exact⟨⟨omg,fun j hj=>(Nat.lt_succ_iff_lt_or_eq.1 hj).elim (hall j) (fun e=>e▸Classical.not_not.1 hne)⟩,omg⟩
    ·
      refine(lW) ?_
      obtain rfl:t=true:=ht.trans (decide_eq_true (aa.GP omg (fun j hj=>hall j omg)))
      exact af (aw rfl) ⟨rfl,rfl⟩ (sub (aJ .nil) aj)
  ·
    refine(Qr)<|(yZ)<|(Qg) ?_
    obtain rfl:t=false:=ht.trans (decide_eq_false (fun e=>hne0 (by rw[←hn1,←hn2,e])))
    exact af (aw rfl) ⟨rfl,rfl⟩ (sub (aJ .nil) aj)

def FR(h:aa.Hd)(bf:Nat)(pp:Option Addr)(pl:List Int)(cp:Nat)(pt:Option Addr)(tr:List Int)(ct:Nat)(pd:Option Addr)(nd cd:Nat)(pk:Option Addr)(nk ck:Nat)(R:ad)(hP:∀w0 h,R w0 h→aE U5 pp pl.length pl w0 h)(hT:∀w0 h,R w0 h→aE U5 pt tr.length tr w0 h)(hcp:pl.length≤cp)(hB:ag.aq pl)(hBt:ag.aq tr)(hpl:pl.length<500000000)(htl:tr.length<500000000)(k:Nat)(hk:pl.length/3≤k)(hkb:k<100000000):aA Tryz.prog 171 [.pointer (soz bf),I6 (k:Int)] [ai bf 90 (hVz h.w h.h h.dep h.ak h.aV pp pl.length cp pt tr.length ct [.slice pd nd cd,.slice pk nk ck]),R] (aF fun v G=>v=.tuple #[.agg #[.int .u16 0,.int .u16 0,.int .u16 0,.int .u16 0],.bool false]∧G=[ai bf 90 (hVz h.w h.h h.dep h.ak h.aV pp pl.length cp pt tr.length ct [.slice pd nd cd,.slice pk nk ck]),R]):=by
  refine ao [(0,_),(1,_)] Tryz.func171 rfl Tryz.ntmps171 rfl rfl ?_
  intro w0 F
  refine(QK)<|(uJ) ?_
  intro b4
  refine(Qg)<|(yX)<|(m7)<|(qO)<|(nf)<|(Q6) ?_
  refine oV (gb V.lH V.oY rfl (cs:=[_,_,_,_]) rfl)<|(Hi)<|(Q6) ?_
  exact af (cH V.jQ rfl ay rfl rfl) ⟨rfl,rfl⟩ (sub (.cons ar (.cons ar .nil)) bg)

def E5(h:aa.Hd)(bf:Nat)(pp:Option Addr)(pl:List Int)(cp:Nat)(pt:Option Addr)(tr:List Int)(ct:Nat)(pd:Option Addr)(nd cd:Nat)(pk:Option Addr)(nk ck:Nat)(R:ad)(hP:∀w0 h,R w0 h→aE U5 pp pl.length pl w0 h)(hT:∀w0 h,R w0 h→aE U5 pt tr.length tr w0 h)(hcp:pl.length≤cp)(hB:ag.aq pl)(hBt:ag.aq tr)(hpl:pl.length<500000000)(htl:tr.length<500000000)(k:Nat)(hk:¬pl.length/3≤k):aA Tryz.prog 171 [.pointer (soz bf),I6 (k:Int)] [ai bf 90 (hVz h.w h.h h.dep h.ak h.aV pp pl.length cp pt tr.length ct [.slice pd nd cd,.slice pk nk ck]),R] (aF fun v G=>v=.tuple #[.agg #[.int .u16 ((pl.drop (3*k)).getD 0 0*257),.int .u16 ((pl.drop (3*k)).getD 1 0*257),.int .u16 ((pl.drop (3*k)).getD 2 0*257),.int .u16 (if k<tr.length then tr.getD k 0*257 else 65535)],.bool true]∧G=[ai bf 90 (hVz h.w h.h h.dep h.ak h.aV pp pl.length cp pt tr.length ct [.slice pd nd cd,.slice pk nk ck]),R]):=by
  refine ao [(0,_),(1,_)] Tryz.func171 rfl Tryz.ntmps171 rfl rfl ?_
  intro w0 F
  have hBd:=aa.cA hB (3*k)
  have hS:∀w0 h,R w0 h→aE U5 (cM pp (3*k) cp 1) (pl.length-3*k) (pl.drop (3*k)) w0 h:=eB (c:=U5) hP rfl (3*k) cp omg hcp
  have hPl:(pl.drop (3*k)).length=pl.length-3*k:=List.length_drop
  refine(QK)<|(uJ) ?_
  intro b4
  refine(Qg)<|(yX)<|(m7)<|(qO)<|(qa)<|(Qg)<|(yX)<|(Q8) ?_
  refine oV (cn (v:=I6 ((3*k:Nat):Int)) (fR (r:=3*(k:Int)) rfl rfl wI) (congrArg (Value.int .i64) omg))<|oV (dZ (3*k) pl.length cp V.bT rfl ⟨_,rfl⟩ ⟨rfl,rfl⟩ rfl omg omg omg)<|(Qe) ?_
  refine gv (fun(al:Int)=>[(4,.pointer (soz b4)),(6,.slice (cM pp (3*k) cp 1) (pl.length-3*k) (cp-3*k)),(7,.int .u16 al)]) (fun(al:Int)=>ai b4 68 [.int .u16 0,.int .u16 0,.int .u16 0,.int .u16 0]::ai bf 90 (hVz h.w h.h h.dep h.ak h.aV pp pl.length cp pt tr.length ct [.slice pd nd cd,.slice pk nk ck])::R::F) (fun(al:Int)=>al=(if k<tr.length then tr.getD k 0*257 else 65535)) ?_ ?_
  ·
    rcases(Classical.em (k<tr.length)) with hkt|hkt
    ·
      refine(Qs)<|(yX)<|(m7)<|(QG)<|(Qd)<|(yX)<|(Q8) ?_
      refine oV (xI V.bT (by exact bK hT dz))<|oV (xL V.s5 (by exact bK hT dz))<|oC (w9 (U5.g tr (k:Int)) (hBt.get k)) V.FZ rfl .nil rfl<|(Q9) ?_
      refine j1 (_) ?_ (eo ln) (sub (dV .nil) aj)
      exact(if_pos hkt).symm
    ·
      refine(Qs)<|(yX)<|(m7)<|(QL)<|(Q7) ?_
      refine j1 (_) ?_ (eo ln) (sub (dV .nil) aj)
      exact(if_neg hkt).symm
  ·
    intro al
    rintro hal
    refine rC TT 1 rfl ?_
    refine wN [pz 0 [] [6],pz 1 [0] [],pz 3 [1] [],pz 7 [2] [],pz 0 [] [6],pz 16 [4] [],pz 48 [5] [],pz 127 [6] [],pz 0 [] [6],pz 256 [8] [],pz 768 [9] [],pz 2047 [10] [],pz 0 [] [7],pz 8191 [3,7,11,12] [],pz 16383 [13] [4],pz 32767 [] []] [⟨fun y=>ai b4 68 [.int .u16 0,.int .u16 0,.int .u16 0,.int .u16 0],none,some 14,[]⟩,⟨fun y=>ai bf 90 (hVz h.w h.h h.dep h.ak h.aV pp pl.length cp pt tr.length ct [.slice pd nd cd,.slice pk nk ck]),none,none,[]⟩,⟨fun y=>R,none,none,[1,2,5,6,9,10]⟩,⟨fun y=>ai b4 68 [.int .u16 (U5.g (pl.drop (3*k)) 0*257),.int .u16 (U5.g (pl.drop (3*k)) 1*257),.int .u16 (U5.g (pl.drop (3*k)) 2*257),.int .u16 al],some 14,none,[]⟩] F V.mixed ?_
    refine nM ?_
    refine nR (fun y FF hA=>xI V.bT (by exact bK hS ay)) ?_
    refine nR (fun y FF hA=>xL V.s5 (by exact bK hS ay)) ?_
    refine nE (fun y FF hA=>aO (Post:=[]) (w9 (U5.g (pl.drop (3*k)) 0) (hBd.get 0)) V.FZ rfl .nil (fun v G h=>by rcases h with⟨rfl,rfl⟩;exact⟨rfl,.refl _⟩)) ?_
    refine nM ?_
    refine nR (fun y FF hA=>xI V.bT (by exact bK hS ay)) ?_
    refine nR (fun y FF hA=>xL V.s5 (by exact bK hS ay)) ?_
    refine nE (fun y FF hA=>aO (Post:=[]) (w9 (U5.g (pl.drop (3*k)) 1) (hBd.get 1)) V.FZ rfl .nil (fun v G h=>by rcases h with⟨rfl,rfl⟩;exact⟨rfl,.refl _⟩)) ?_
    refine nM ?_
    refine nR (fun y FF hA=>xI V.bT (by exact bK hS ay)) ?_
    refine nR (fun y FF hA=>xL V.s5 (by exact bK hS ay)) ?_
    refine nE (fun y FF hA=>aO (Post:=[]) (w9 (U5.g (pl.drop (3*k)) 2) (hBd.get 2)) V.FZ rfl .nil (fun v G h=>by rcases h with⟨rfl,rfl⟩;exact⟨rfl,.refl _⟩)) ?_
    refine nM ?_
    refine nV (fun y hA L=>gb V.lH V.oY rfl (cs:=[.int .u16 (U5.g (pl.drop (3*k)) 0*257),.int .u16 (U5.g (pl.drop (3*k)) 1*257),.int .u16 (U5.g (pl.drop (3*k)) 2*257),.int .u16 al]) (by kernel_rfl)) ?_
    refine nE (fun y FF hA=>dm (aZ V.jQ rfl rfl (us:=[_,_,_,_]) rfl rfl (by exact ft) (by exact Nat.le_of_ble_eq_true rfl) rfl) ⟨rfl,.refl _⟩) ?_
    refine nA ?_
    refine cZ ?_
    intro y hA
    clear hA
    refine bJ<|(Q4K) ?_
    refine bA (M:=ai bf 90 (hVz h.w h.h h.dep h.ak h.aV pp pl.length cp pt tr.length ct [.slice pd nd cd,.slice pk nk ck])::R::ai b4 68 [.int .u16 (U5.g (pl.drop (3*k)) 0*257),.int .u16 (U5.g (pl.drop (3*k)) 1*257),.int .u16 (U5.g (pl.drop (3*k)) 2*257),.int .u16 al]::F) (fun _ _ h=>h)<|(Qa) ?_
    exact af (cH V.jQ rfl dz rfl rfl) ⟨by rw[←hal];rfl,rfl⟩ (sub (aJ .nil) bg)

def IP(h:aa.Hd)(bf:Nat)(pp:Option Addr)(pl:List Int)(cp:Nat)(pt:Option Addr)(tr:List Int)(ct:Nat)(pd:Option Addr)(nd cd:Nat)(pk:Option Addr)(ck:Nat)(R:ad)(hP:∀w0 h,R w0 h→aE U5 pp pl.length pl w0 h)(hT:∀w0 h,R w0 h→aE U5 pt tr.length tr w0 h)(hcp:pl.length≤cp)(hB:ag.aq pl)(hBt:ag.aq tr)(hpl:pl.length<500000000)(htl:tr.length<500000000)(pv:Option Addr)(cv:Nat)(v:List Int)(Rk Rv:ad)(hRk:∀w0 h_,Rk w0 h_→aE (aK 3 .i64) pk (aa.bd h tr).length (aa.bd h tr) w0 h_)(hRv:∀w0 h_,Rv w0 h_→aE (aK 3 .i64) pv v.length v w0 h_)(hf:aa.fm ⟨h,pl,tr⟩)(hvl:v.length=(aa.parts h.ak).toNat)(hvx:∀x∈v,0≤x∧x<2^h.dep.toNat)(h3:h.ak=3)(k:Nat)(hk0:v.getD 0 0=(k:Int))(hkb:k<100000000)(hk:pl.length/3≤k):aA Tryz.prog 151 [.pointer (soz bf),.slice pv v.length cv] [ai bf 90 (hVz h.w h.h h.dep h.ak h.aV pp pl.length cp pt tr.length ct [.slice pd nd cd,.slice pk (aa.bd h tr).length ck]),Rk,Rv,R] (aF fun e G=>e=.tuple #[.agg #[.int .u16 0,.int .u16 0,.int .u16 0,.int .u16 0],.bool false]∧G=[ai bf 90 (hVz h.w h.h h.dep h.ak h.aV pp pl.length cp pt tr.length ct [.slice pd nd cd,.slice pk (aa.bd h tr).length ck]),Rk,Rv,R]):=by
  refine(TN) ?_
  intro w0 F
  have hde:aa.deep h.ak h.dep:=by unfold aa.fm at hf;exact hf.1
  have hpc:=aa.fJ hde
  have hd:=aa.fO hde
  have hUl:(v.map (aa.up h.dep)).length=v.length:=List.length_map ..
  have hdi:=aa.iz hd
  refine(QK)<|(uJ) ?_
  intro b4
  refine(Qg)<|(QW)<|(QD)<|(Qd)<|(Q8V) ?_
  rw[show(aK 3 .i64).g v 0=(k:Int) from hk0]
  refine oC (FR h bf pp pl cp pt tr ct pd nd cd pk (aa.bd h tr).length ck R hP hT hcp hB hBt hpl htl k hk omg) V.Vt rfl (.cons ar (.cons cB .nil)) rfl<|(Q9)<|(US)<|(Q6) ?_
  exact af (cH V.jQ rfl dz rfl rfl) ⟨rfl,rfl⟩ (sub (an (.cons aL (.cons aL (.cons dJ .nil)))) bg)

def I8(h:aa.Hd)(bf:Nat)(pp:Option Addr)(pl:List Int)(cp:Nat)(pt:Option Addr)(tr:List Int)(ct:Nat)(pd:Option Addr)(nd cd:Nat)(pk:Option Addr)(ck:Nat)(R:ad)(hP:∀w0 h,R w0 h→aE U5 pp pl.length pl w0 h)(hT:∀w0 h,R w0 h→aE U5 pt tr.length tr w0 h)(hcp:pl.length≤cp)(hB:ag.aq pl)(hBt:ag.aq tr)(hpl:pl.length<500000000)(htl:tr.length<500000000)(pv:Option Addr)(cv:Nat)(v:List Int)(Rk Rv:ad)(hRk:∀w0 h_,Rk w0 h_→aE (aK 3 .i64) pk (aa.bd h tr).length (aa.bd h tr) w0 h_)(hRv:∀w0 h_,Rv w0 h_→aE (aK 3 .i64) pv v.length v w0 h_)(hf:aa.fm ⟨h,pl,tr⟩)(hvl:v.length=(aa.parts h.ak).toNat)(hvx:∀x∈v,0≤x∧x<2^h.dep.toNat)(h3:h.ak=3)(k:Nat)(hk0:v.getD 0 0=(k:Int))(hkb:k<100000000)(hk:¬pl.length/3≤k):aA Tryz.prog 151 [.pointer (soz bf),.slice pv v.length cv] [ai bf 90 (hVz h.w h.h h.dep h.ak h.aV pp pl.length cp pt tr.length ct [.slice pd nd cd,.slice pk (aa.bd h tr).length ck]),Rk,Rv,R] (aF fun e G=>e=.tuple #[.agg #[.int .u16 ((pl.drop (3*k)).getD 0 0*257),.int .u16 ((pl.drop (3*k)).getD 1 0*257),.int .u16 ((pl.drop (3*k)).getD 2 0*257),.int .u16 (if k<tr.length then tr.getD k 0*257 else 65535)],.bool true]∧G=[ai bf 90 (hVz h.w h.h h.dep h.ak h.aV pp pl.length cp pt tr.length ct [.slice pd nd cd,.slice pk (aa.bd h tr).length ck]),Rk,Rv,R]):=by
  refine(TN) ?_
  intro w0 F
  have hde:aa.deep h.ak h.dep:=by unfold aa.fm at hf;exact hf.1
  have hpc:=aa.fJ hde
  have hd:=aa.fO hde
  have hUl:(v.map (aa.up h.dep)).length=v.length:=List.length_map ..
  have hdi:=aa.iz hd
  refine(QK)<|(uJ) ?_
  intro b4
  refine(Qg)<|(QW)<|(QD)<|(Qd)<|(Q8V) ?_
  rw[show(aK 3 .i64).g v 0=(k:Int) from hk0]
  refine oC (E5 h bf pp pl cp pt tr ct pd nd cd pk (aa.bd h tr).length ck R hP hT hcp hB hBt hpl htl k hk) V.Vt rfl (.cons ar (.cons cB .nil)) rfl<|(Q9)<|(US)<|(Q6) ?_
  exact af (cH V.jQ rfl dz rfl rfl) ⟨rfl,rfl⟩ (sub (an (.cons aL (.cons aL (.cons dJ .nil)))) bg)

def IC(h:aa.Hd)(bf:Nat)(pp:Option Addr)(pl:List Int)(cp:Nat)(pt:Option Addr)(tr:List Int)(ct:Nat)(pd:Option Addr)(nd cd:Nat)(pk:Option Addr)(ck:Nat)(R:ad)(hP:∀w0 h,R w0 h→aE U5 pp pl.length pl w0 h)(hT:∀w0 h,R w0 h→aE U5 pt tr.length tr w0 h)(hcp:pl.length≤cp)(hB:ag.aq pl)(hBt:ag.aq tr)(hpl:pl.length<500000000)(htl:tr.length<500000000)(pv:Option Addr)(cv:Nat)(v:List Int)(Rk Rv:ad)(hRk:∀w0 h_,Rk w0 h_→aE (aK 3 .i64) pk (aa.bd h tr).length (aa.bd h tr) w0 h_)(hRv:∀w0 h_,Rv w0 h_→aE (aK 3 .i64) pv v.length v w0 h_)(hf:aa.fm ⟨h,pl,tr⟩)(hvl:v.length=(aa.parts h.ak).toNat)(hvx:∀x∈v,0≤x∧x<2^h.dep.toNat)(h3:¬h.ak=3)(c0 c1 c2 c3:Int)(hpx:aa.gB ⟨h,pl,tr⟩ v=some [c0,c1,c2,c3]):aA Tryz.prog 151 [.pointer (soz bf),.slice pv v.length cv] [ai bf 90 (hVz h.w h.h h.dep h.ak h.aV pp pl.length cp pt tr.length ct [.slice pd nd cd,.slice pk (aa.bd h tr).length ck]),Rk,Rv,R] (aF fun e G=>e=.tuple #[.agg #[.int .u16 c0,.int .u16 c1,.int .u16 c2,.int .u16 c3],.bool true]∧G=[ai bf 90 (hVz h.w h.h h.dep h.ak h.aV pp pl.length cp pt tr.length ct [.slice pd nd cd,.slice pk (aa.bd h tr).length ck]),Rk,Rv,R]):=by
  refine(TN) ?_
  intro w0 F
  have hde:aa.deep h.ak h.dep:=by unfold aa.fm at hf;exact hf.1
  have hpc:=aa.fJ hde
  have hd:=aa.fO hde
  have hUl:(v.map (aa.up h.dep)).length=v.length:=List.length_map ..
  have hdi:=aa.iz hd
  refine(QK)<|(uJ) ?_
  intro b4
  refine(Qg)<|(QW)<|(QA) ?_
  refine rO TT 19 rfl<|gL (Row (aK 62 .u16) none 0 0 []) (Row.nil _ _ _) ?_
  rw[show([]:List Int)=(v.map (aa.up h.dep)).take 0 from rfl]
  refine dP (fun(i:Nat) (ps:Option Addr) (cs:Nat)=>[(0,.pointer (soz bf)),(1,.slice pv v.length cv),(4,.pointer (soz b4)),(6,.slice ps i cs),(25,.slice pv v.length cv),(26,I6 (v.length:Int)),(27,I6 (i:Int))]) (fun(i:Nat) (ps:Option Addr) (cs:Nat)=>Row (aK 62 .u16) ps i cs ((v.map (aa.up h.dep)).take i)::ai b4 68 [.int .u16 0,.int .u16 0,.int .u16 0,.int .u16 0]::ai bf 90 (hVz h.w h.h h.dep h.ak h.aV pp pl.length cp pt tr.length ct [.slice pd nd cd,.slice pk (aa.bd h tr).length ck])::Rk::Rv::R::F) (fun(i:Nat) (ps:Option Addr) (cs:Nat)=>i≤v.length) (fun(i:Nat) (ps:Option Addr) (cs:Nat)=>v.length-i) (i3 (0) (none) (0) ?_ (fF (bb ln)) (sub (an (iV .nil)) aj)) ?_
  ·
    exact Nat.zero_le _
  intro i ps cs
  rintro hi
  refine(Qs) ?_
  refine av rfl (fun h28=>?_) (fun h28=>?_)
  ·
    refine(Qb) ?_
    have hvi:0≤((aK 3 .i64).g v (i:Int))∧((aK 3 .i64).g v (i:Int))<2^h.dep.toNat:=hvx _ (aa.fN omg)
    refine(QF) ?_
    refine oV (xI V.cy (by exact bK hRv ic))<|oV (xL V.s3 (by exact bK hRv ic))<|(Qg)<|(QY) ?_
    refine oC (T9 h.dep ((aK 3 .i64).g v (i:Int)) hd hvi) V.Tc rfl .nil rfl<|(Qg) ?_
    refine cg (aK 62 .u16) [(aa.up h.dep ((aK 3 .i64).g v (i:Int)))] V.iJ V.Hr rfl rfl rfl rfl rfl rfl ?_
    intro NX
    refine ei (c:=(aK 62 .u16)) V.iJ V.Hr rfl rfl rfl rfl ar (own ay) omg rfl ?_
    intro p44 c44
    refine(QP) ?_
    rw[show(v.map (aa.up h.dep)).take i++[aa.up h.dep ((aK 3 .i64).g v (i:Int))]=(v.map (aa.up h.dep)).take (i+1) from aa.FN omg]
    exact j3 (i+1) _ _ ⟨omg,omg⟩ (fF (bb ln)) (sub (an (.cons ar (.cons ar (.cons ar (.cons ar (.cons ar .nil)))))) bg)
  ·
    refine(Qf) ?_
    obtain rfl:i=v.length:=omg
    rw[List.take_of_length_le omg]
    refine(Q4) ?_
    refine gv (fun(al:Int)=>[(0,.pointer (soz bf)),(1,.slice pv v.length cv),(4,.pointer (soz b4)),(6,.slice ps v.length cs),(11,.int .u16 al)]) (fun(al:Int)=>Row (aK 62 .u16) ps v.length cs (v.map (aa.up h.dep))::ai b4 68 [.int .u16 0,.int .u16 0,.int .u16 0,.int .u16 0]::ai bf 90 (hVz h.w h.h h.dep h.ak h.aV pp pl.length cp pt tr.length ct [.slice pd nd cd,.slice pk (aa.bd h tr).length ck])::Rk::Rv::R::F) (fun(al:Int)=>al=(if h.ak=4∨h.ak=6 then(v.map (aa.up h.dep)).getD ((v.map (aa.up h.dep)).length-1) 0 else 65535)) ?_ ?_
    ·
      rcases((by omega:h.ak=4∨(¬h.ak=4∧h.ak=6)∨(¬h.ak=4∧¬h.ak=6))) with a1|⟨a1,a2⟩|⟨a1,a2⟩
      ·
        refine(Qs)<|(QY)<|(CS)<|(w5) ?_
        refine oV (xI V.iJ (own ay))<|oV (xL V.nH (own ay))<|(Q9) ?_
        refine j1 (_) ?_ (bb ln) (sub (an (iV .nil)) aj)
        (rw[if_pos omg,hUl];exact gE (v.length-1) omg)
      ·
        refine(Qs)<|(QY)<|(n4)<|(sx)<|(QY)<|(Q0)<|(D8)<|(QU) ?_
        refine oV (xI V.iJ (own ay))<|oV (xL V.nH (own ay))<|(Q9) ?_
        refine j1 (_) ?_ (bb ln) (sub (an (iV .nil)) aj)
        (rw[if_pos omg,hUl];exact gE (v.length-1) omg)
      ·
        refine(Qs)<|(QY)<|(n4)<|(sx)<|(QY)<|(Q0)<|(oN)<|(Q6) ?_
        refine j1 (_) ?_ (bb ln) (sub (an (iV .nil)) aj)
        (rw[if_neg omg];done)
    ·
      intro al
      rintro hal
      refine gv (fun(al2:Int)=>[(0,.pointer (soz bf)),(4,.pointer (soz b4)),(6,.slice ps v.length cs),(11,.int .u16 al2)]) (fun(al2:Int)=>Row (aK 62 .u16) ps v.length cs (v.map (aa.up h.dep))::ai b4 68 [.int .u16 0,.int .u16 0,.int .u16 0,.int .u16 0]::ai bf 90 (hVz h.w h.h h.dep h.ak h.aV pp pl.length cp pt tr.length ct [.slice pd nd cd,.slice pk (aa.bd h tr).length ck])::Rk::Rv::R::F) (fun(al2:Int)=>al2=aa.oS ⟨h,pl,tr⟩ v) ?_ ?_
      ·
        rcases((by by_cases q:0<(aa.bd h tr).length;by_cases q2:v=(aa.bd h tr);exact .inr (.inl ⟨q,q2⟩);exact .inr (.inr ⟨q,q2⟩);exact .inl q:¬0<(aa.bd h tr).length∨(0<(aa.bd h tr).length∧v=(aa.bd h tr))∨(0<(aa.bd h tr).length∧¬v=(aa.bd h tr)))) with b1|⟨b1,b2⟩|⟨b1,b2⟩
        ·
          refine(lY)<|(Dd)<|(Na)<|(Qo)<|(Qy) ?_
          refine j1 (_) ?_ (cK ln) (sub (an (iV .nil)) aj)
          (unfold aa.oS;rw[if_neg (fun q=>b1 q.1)];exact hal)
        ·
          refine(lY)<|(Dd)<|(Na)<|(Qp)<|(sx)<|(Dd)<|(Q0) ?_
          refine oC (DG pv v.length cv v rfl Rv hRv pk (aa.bd h tr).length ck (aa.bd h tr) rfl Rk hRk omg true (decide_eq_true b2).symm) V.Wq rfl (.cons gW (.cons cB .nil)) rfl<|(Qd) ?_
          refine j1 (_) ?_ (cK ln) (sub (.cons aL (.cons aL (.cons aL (.cons ar (aJ .nil))))) aj)
          (unfold aa.oS;rw[if_pos ⟨b1,b2⟩];done)
        ·
          refine(lY)<|(Dd)<|(Na)<|(Qp)<|(sx)<|(Dd)<|(Q0) ?_
          refine oC (DG pv v.length cv v rfl Rv hRv pk (aa.bd h tr).length ck (aa.bd h tr) rfl Rk hRk omg false (decide_eq_false b2).symm) V.Wq rfl (.cons gW (.cons cB .nil)) rfl<|(Q6) ?_
          refine j1 (_) ?_ (cK ln) (sub (.cons aL (.cons aL (.cons aL (.cons ar (aJ .nil))))) aj)
          (unfold aa.oS;rw[if_neg (fun q=>b2 q.2)];exact hal)
      ·
        intro al2
        rintro hal2
        rcases((by omega:h.ak=0∨(¬h.ak=0∧h.ak=4)∨(¬h.ak=0∧¬h.ak=4))) with a1|⟨a1,a2⟩|⟨a1,a2⟩
        ·
          refine rC TT 7 rfl ?_
          refine oV (aB V.s3 rfl dz rfl) ?_
          refine oV (bQ (bG rfl rfl) a1) ?_
          refine rO TT 12 rfl ?_
          refine wN [pz 0 [] [6],pz 1 [0] [],pz 3 [1] [],pz 0 [] [6],pz 8 [3] [],pz 24 [4] [],pz 0 [] [6],pz 64 [6] [],pz 192 [7] [],pz 0 [] [11],pz 1023 [2,5,8,9] [],pz 2047 [10] [4],pz 4095 [] []] [⟨fun y=>Row (aK 62 .u16) ps v.length cs (v.map (aa.up h.dep)),none,none,[1,2,4,5,7,8]⟩,⟨fun y=>ai b4 68 [.int .u16 0,.int .u16 0,.int .u16 0,.int .u16 0],none,some 11,[]⟩,⟨fun y=>ai bf 90 (hVz h.w h.h h.dep h.ak h.aV pp pl.length cp pt tr.length ct [.slice pd nd cd,.slice pk (aa.bd h tr).length ck]),none,none,[]⟩,⟨fun y=>Rk,none,none,[]⟩,⟨fun y=>Rv,none,none,[]⟩,⟨fun y=>R,none,none,[]⟩,⟨fun y=>ai b4 68 [.int .u16 ((aK 62 .u16).g (v.map (aa.up h.dep)) 0),.int .u16 ((aK 62 .u16).g (v.map (aa.up h.dep)) 0),.int .u16 ((aK 62 .u16).g (v.map (aa.up h.dep)) 0),.int .u16 al2],some 11,none,[]⟩] F V.mixed ?_
          refine nM ?_
          refine nR (fun y FF hA=>xI V.iJ (own ay)) ?_
          refine nR (fun y FF hA=>xL V.nH (own ay)) ?_
          refine nM ?_
          refine nR (fun y FF hA=>xI V.iJ (own ay)) ?_
          refine nR (fun y FF hA=>xL V.nH (own ay)) ?_
          refine nM ?_
          refine nR (fun y FF hA=>xI V.iJ (own ay)) ?_
          refine nR (fun y FF hA=>xL V.nH (own ay)) ?_
          refine nM ?_
          refine nV (fun y hA L=>gb V.lH V.oY rfl (cs:=[.int .u16 ((aK 62 .u16).g (v.map (aa.up h.dep)) 0),.int .u16 ((aK 62 .u16).g (v.map (aa.up h.dep)) 0),.int .u16 ((aK 62 .u16).g (v.map (aa.up h.dep)) 0),.int .u16 al2]) (by kernel_rfl)) ?_
          refine nE (fun y FF hA=>dm (aZ V.jQ rfl rfl (us:=[_,_,_,_]) rfl rfl (by exact ft) (by exact Nat.le_of_ble_eq_true rfl) rfl) ⟨rfl,.refl _⟩) ?_
          refine nA ?_
          refine cZ ?_
          intro y hA
          clear hA
          refine bJ ?_
          refine bW _ (.cons (d:=4) rfl (.cons (d:=5) rfl (.nil _))) ?_
          refine bA (M:=Row (aK 62 .u16) ps v.length cs (v.map (aa.up h.dep))::ai bf 90 (hVz h.w h.h h.dep h.ak h.aV pp pl.length cp pt tr.length ct [.slice pd nd cd,.slice pk (aa.bd h tr).length ck])::Rk::Rv::R::ai b4 68 [.int .u16 ((aK 62 .u16).g (v.map (aa.up h.dep)) 0),.int .u16 ((aK 62 .u16).g (v.map (aa.up h.dep)) 0),.int .u16 ((aK 62 .u16).g (v.map (aa.up h.dep)) 0),.int .u16 al2]::F) (fun _ _ h=>h) ?_
          refine bA (sub .nil (.skip (.keep (.keep (.keep (.keep (.keep .refl))))))) ?_
          simp only[List.nil_append]
          refine(Q5) ?_
          obtain⟨e0,e1,e2,e3⟩:=aa.vS ((aa.um (f:=⟨h,pl,tr⟩) (v:=v) (show h.ak=0∨h.ak=4 from by omega)).symm.trans hpx)
          exact af (cH V.jQ rfl ic rfl rfl) ⟨by rw[←e0,←e1,←e2,←e3,hal2];rfl,rfl⟩ (sub (jm .nil) bg)
        ·
          refine rC TT 7 rfl ?_
          refine oV (aB V.s3 rfl dz rfl) ?_
          refine oV (bC (bG rfl rfl) a1) ?_
          refine rO TT 5 rfl ?_
          refine bB rfl ?_
          refine oV (aB V.s3 rfl dz rfl) ?_
          refine bB rfl ?_
          refine oV (bQ (bG rfl rfl) a2) ?_
          refine rO TT 5 rfl ?_
          refine wN [pz 0 [] [6],pz 1 [0] [],pz 3 [1] [],pz 0 [] [6],pz 8 [3] [],pz 24 [4] [],pz 0 [] [6],pz 64 [6] [],pz 192 [7] [],pz 0 [] [11],pz 1023 [2,5,8,9] [],pz 2047 [10] [4],pz 4095 [] []] [⟨fun y=>Row (aK 62 .u16) ps v.length cs (v.map (aa.up h.dep)),none,none,[1,2,4,5,7,8]⟩,⟨fun y=>ai b4 68 [.int .u16 0,.int .u16 0,.int .u16 0,.int .u16 0],none,some 11,[]⟩,⟨fun y=>ai bf 90 (hVz h.w h.h h.dep h.ak h.aV pp pl.length cp pt tr.length ct [.slice pd nd cd,.slice pk (aa.bd h tr).length ck]),none,none,[]⟩,⟨fun y=>Rk,none,none,[]⟩,⟨fun y=>Rv,none,none,[]⟩,⟨fun y=>R,none,none,[]⟩,⟨fun y=>ai b4 68 [.int .u16 ((aK 62 .u16).g (v.map (aa.up h.dep)) 0),.int .u16 ((aK 62 .u16).g (v.map (aa.up h.dep)) 0),.int .u16 ((aK 62 .u16).g (v.map (aa.up h.dep)) 0),.int .u16 al2],some 11,none,[]⟩] F V.mixed ?_
          refine nM ?_
          refine nR (fun y FF hA=>xI V.iJ (own ay)) ?_
          refine nR (fun y FF hA=>xL V.nH (own ay)) ?_
          refine nM ?_
          refine nR (fun y FF hA=>xI V.iJ (own ay)) ?_
          refine nR (fun y FF hA=>xL V.nH (own ay)) ?_
          refine nM ?_
          refine nR (fun y FF hA=>xI V.iJ (own ay)) ?_
          refine nR (fun y FF hA=>xL V.nH (own ay)) ?_
          refine nM ?_
          refine nV (fun y hA L=>gb V.lH V.oY rfl (cs:=[.int .u16 ((aK 62 .u16).g (v.map (aa.up h.dep)) 0),.int .u16 ((aK 62 .u16).g (v.map (aa.up h.dep)) 0),.int .u16 ((aK 62 .u16).g (v.map (aa.up h.dep)) 0),.int .u16 al2]) (by kernel_rfl)) ?_
          refine nE (fun y FF hA=>dm (aZ V.jQ rfl rfl (us:=[_,_,_,_]) rfl rfl (by exact ft) (by exact Nat.le_of_ble_eq_true rfl) rfl) ⟨rfl,.refl _⟩) ?_
          refine nA ?_
          refine cZ ?_
          intro y hA
          clear hA
          refine bJ ?_
          refine bW _ (.cons (d:=4) rfl (.cons (d:=5) rfl (.nil _))) ?_
          refine bA (M:=Row (aK 62 .u16) ps v.length cs (v.map (aa.up h.dep))::ai bf 90 (hVz h.w h.h h.dep h.ak h.aV pp pl.length cp pt tr.length ct [.slice pd nd cd,.slice pk (aa.bd h tr).length ck])::Rk::Rv::R::ai b4 68 [.int .u16 ((aK 62 .u16).g (v.map (aa.up h.dep)) 0),.int .u16 ((aK 62 .u16).g (v.map (aa.up h.dep)) 0),.int .u16 ((aK 62 .u16).g (v.map (aa.up h.dep)) 0),.int .u16 al2]::F) (fun _ _ h=>h) ?_
          refine bA (sub .nil (.skip (.keep (.keep (.keep (.keep (.keep .refl))))))) ?_
          simp only[List.nil_append]
          refine(Q5) ?_
          obtain⟨e0,e1,e2,e3⟩:=aa.vS ((aa.um (f:=⟨h,pl,tr⟩) (v:=v) (show h.ak=0∨h.ak=4 from by omega)).symm.trans hpx)
          exact af (cH V.jQ rfl ic rfl rfl) ⟨by rw[←e0,←e1,←e2,←e3,hal2];rfl,rfl⟩ (sub (jm .nil) bg)
        ·
          refine rC TT 7 rfl ?_
          refine oV (aB V.s3 rfl dz rfl) ?_
          refine oV (bC (bG rfl rfl) a1) ?_
          refine rO TT 5 rfl ?_
          refine bB rfl ?_
          refine oV (aB V.s3 rfl dz rfl) ?_
          refine bB rfl ?_
          refine oV (bC (bG rfl rfl) a2) ?_
          refine rO TT 7 rfl ?_
          refine wN [pz 0 [] [6],pz 1 [0] [],pz 3 [1] [],pz 0 [] [6],pz 8 [3] [],pz 24 [4] [],pz 0 [] [6],pz 64 [6] [],pz 192 [7] [],pz 0 [] [11],pz 1023 [2,5,8,9] [],pz 2047 [10] [4],pz 4095 [] []] [⟨fun y=>Row (aK 62 .u16) ps v.length cs (v.map (aa.up h.dep)),none,none,[1,2,4,5,7,8]⟩,⟨fun y=>ai b4 68 [.int .u16 0,.int .u16 0,.int .u16 0,.int .u16 0],none,some 11,[]⟩,⟨fun y=>ai bf 90 (hVz h.w h.h h.dep h.ak h.aV pp pl.length cp pt tr.length ct [.slice pd nd cd,.slice pk (aa.bd h tr).length ck]),none,none,[]⟩,⟨fun y=>Rk,none,none,[]⟩,⟨fun y=>Rv,none,none,[]⟩,⟨fun y=>R,none,none,[]⟩,⟨fun y=>ai b4 68 [.int .u16 ((aK 62 .u16).g (v.map (aa.up h.dep)) 0),.int .u16 ((aK 62 .u16).g (v.map (aa.up h.dep)) 1),.int .u16 ((aK 62 .u16).g (v.map (aa.up h.dep)) 2),.int .u16 al2],some 11,none,[]⟩] F V.mixed ?_
          refine nM ?_
          refine nR (fun y FF hA=>xI V.iJ (own ay)) ?_
          refine nR (fun y FF hA=>xL V.nH (own ay)) ?_
          refine nM ?_
          refine nR (fun y FF hA=>xI V.iJ (own ay)) ?_
          refine nR (fun y FF hA=>xL V.nH (own ay)) ?_
          refine nM ?_
          refine nR (fun y FF hA=>xI V.iJ (own ay)) ?_
          refine nR (fun y FF hA=>xL V.nH (own ay)) ?_
          refine nM ?_
          refine nV (fun y hA L=>gb V.lH V.oY rfl (cs:=[.int .u16 ((aK 62 .u16).g (v.map (aa.up h.dep)) 0),.int .u16 ((aK 62 .u16).g (v.map (aa.up h.dep)) 1),.int .u16 ((aK 62 .u16).g (v.map (aa.up h.dep)) 2),.int .u16 al2]) (by kernel_rfl)) ?_
          refine nE (fun y FF hA=>dm (aZ V.jQ rfl rfl (us:=[_,_,_,_]) rfl rfl (by exact ft) (by exact Nat.le_of_ble_eq_true rfl) rfl) ⟨rfl,.refl _⟩) ?_
          refine nA ?_
          refine cZ ?_
          intro y hA
          clear hA
          refine bJ<|(Q4K) ?_
          refine bA (M:=Row (aK 62 .u16) ps v.length cs (v.map (aa.up h.dep))::ai bf 90 (hVz h.w h.h h.dep h.ak h.aV pp pl.length cp pt tr.length ct [.slice pd nd cd,.slice pk (aa.bd h tr).length ck])::Rk::Rv::R::ai b4 68 [.int .u16 ((aK 62 .u16).g (v.map (aa.up h.dep)) 0),.int .u16 ((aK 62 .u16).g (v.map (aa.up h.dep)) 1),.int .u16 ((aK 62 .u16).g (v.map (aa.up h.dep)) 2),.int .u16 al2]::F) (fun _ _ h=>h)<|(Q6e) ?_
          simp only[List.nil_append]
          refine(Qa) ?_
          obtain⟨e0,e1,e2,e3⟩:=aa.vS ((aa.yh (f:=⟨h,pl,tr⟩) (v:=v) (show¬(h.ak=0∨h.ak=4) from by omega) h3).symm.trans hpx)
          exact af (cH V.jQ rfl ic rfl rfl) ⟨by rw[←e0,←e1,←e2,←e3,hal2];rfl,rfl⟩ (sub (jm .nil) bg)
def J0(h:aa.Hd)(bf:Nat)(pp:Option Addr)(pl:List Int)(cp:Nat)(pt:Option Addr)(tr:List Int)(ct:Nat)(pd:Option Addr)(nd cd:Nat)(pk:Option Addr)(ck:Nat)(R:ad)(hP:∀w0 h,R w0 h→aE U5 pp pl.length pl w0 h)(hT:∀w0 h,R w0 h→aE U5 pt tr.length tr w0 h)(hcp:pl.length≤cp)(hB:ag.aq pl)(hBt:ag.aq tr)(hpl:pl.length<500000000)(htl:tr.length<500000000)(pv:Option Addr)(cv:Nat)(v:List Int)(Rk Rv:ad)(hRk:∀w0 h_,Rk w0 h_→aE (aK 3 .i64) pk (aa.bd h tr).length (aa.bd h tr) w0 h_)(hRv:∀w0 h_,Rv w0 h_→aE (aK 3 .i64) pv v.length v w0 h_)(hf:aa.fm ⟨h,pl,tr⟩)(hvl:v.length=(aa.parts h.ak).toNat)(hvx:∀x∈v,0≤x∧x<2^h.dep.toNat)(hk2:v.getD 0 0<100000000)(hpx:aa.gB ⟨h,pl,tr⟩ v=none):aA Tryz.prog 151 [.pointer (soz bf),.slice pv v.length cv] [ai bf 90 (hVz h.w h.h h.dep h.ak h.aV pp pl.length cp pt tr.length ct [.slice pd nd cd,.slice pk (aa.bd h tr).length ck]),Rk,Rv,R] (aF fun e G=>e=.tuple #[.agg #[.int .u16 0,.int .u16 0,.int .u16 0,.int .u16 0],.bool false]∧G=[ai bf 90 (hVz h.w h.h h.dep h.ak h.aV pp pl.length cp pt tr.length ct [.slice pd nd cd,.slice pk (aa.bd h tr).length ck]),Rk,Rv,R]):=by
  by_cases h3:h.ak=3
  · have hx:=hvx (v.getD 0 0) (aa.fN (by have:=aa.fJ (c:=h.ak) (d:=h.dep) (by unfold aa.fm at hf;exact hf.1);omega))
    obtain⟨k,hk⟩:∃k:Nat,v.getD 0 0=(k:Int):=⟨(v.getD 0 0).toNat,omg⟩
    rw[aa.sr h3,hk] at hpx
    refine IP h bf pp pl cp pt tr ct pd nd cd pk ck R hP hT hcp hB hBt hpl htl pv cv v Rk Rv hRk hRv hf hvl hvx h3 k hk omg<|Classical.not_not.1 fun q=>?_
    rw[show((k:Int)).toNat=k from rfl,aa.AY q] at hpx
    cases hpx
  · rw[aa.wS h3] at hpx;cases hpx
def JY(h:aa.Hd)(bf:Nat)(pp:Option Addr)(pl:List Int)(cp:Nat)(pt:Option Addr)(tr:List Int)(ct:Nat)(pd:Option Addr)(nd cd:Nat)(pk:Option Addr)(ck:Nat)(R:ad)(hP:∀w0 h,R w0 h→aE U5 pp pl.length pl w0 h)(hT:∀w0 h,R w0 h→aE U5 pt tr.length tr w0 h)(hcp:pl.length≤cp)(hB:ag.aq pl)(hBt:ag.aq tr)(hpl:pl.length<500000000)(htl:tr.length<500000000)(pv:Option Addr)(cv:Nat)(v:List Int)(Rk Rv:ad)(hRk:∀w0 h_,Rk w0 h_→aE (aK 3 .i64) pk (aa.bd h tr).length (aa.bd h tr) w0 h_)(hRv:∀w0 h_,Rv w0 h_→aE (aK 3 .i64) pv v.length v w0 h_)(hf:aa.fm ⟨h,pl,tr⟩)(hvl:v.length=(aa.parts h.ak).toNat)(hvx:∀x∈v,0≤x∧x<2^h.dep.toNat)(hk2:v.getD 0 0<100000000)(c0 c1 c2 c3:Int)(hpx:aa.gB ⟨h,pl,tr⟩ v=some [c0,c1,c2,c3]):aA Tryz.prog 151 [.pointer (soz bf),.slice pv v.length cv] [ai bf 90 (hVz h.w h.h h.dep h.ak h.aV pp pl.length cp pt tr.length ct [.slice pd nd cd,.slice pk (aa.bd h tr).length ck]),Rk,Rv,R] (aF fun e G=>e=.tuple #[.agg #[.int .u16 c0,.int .u16 c1,.int .u16 c2,.int .u16 c3],.bool true]∧G=[ai bf 90 (hVz h.w h.h h.dep h.ak h.aV pp pl.length cp pt tr.length ct [.slice pd nd cd,.slice pk (aa.bd h tr).length ck]),Rk,Rv,R]):=by
  by_cases h3:h.ak=3
  · have hx:=hvx (v.getD 0 0) (aa.fN (by have:=aa.fJ (c:=h.ak) (d:=h.dep) (by unfold aa.fm at hf;exact hf.1);omega))
    obtain⟨k,hk⟩:∃k:Nat,v.getD 0 0=(k:Int):=⟨(v.getD 0 0).toNat,omg⟩
    rw[aa.sr h3,hk,show((k:Int)).toNat=k from rfl] at hpx
    have q:¬pl.length/3≤k:=fun q=>by rw[aa.HM q] at hpx;cases hpx
    rw[aa.AY q] at hpx
    obtain⟨rfl,rfl,rfl,rfl⟩:=aa.vS hpx
    exact I8 h bf pp pl cp pt tr ct pd nd cd pk ck R hP hT hcp hB hBt hpl htl pv cv v Rk Rv hRk hRv hf hvl hvx h3 k hk omg q
  · exact IC h bf pp pl cp pt tr ct pd nd cd pk ck R hP hT hcp hB hBt hpl htl pv cv v Rk Rv hRk hRv hf hvl hvx h3 c0 c1 c2 c3 hpx

def yg(h:aa.Hd)(pr:Option Addr)(row:List Int)(cr:Nat)(x:Nat)(pp:Option Addr)(pl:List Int)(cp:Nat)(pt:Option Addr)(tr:List Int)(ct:Nat)(Rr R:ad)(hRr:∀w0 h,Rr w0 h→aE U5 pr row.length row w0 h)(hP:∀w0 h,R w0 h→aE U5 pp pl.length pl w0 h)(hT:∀w0 h,R w0 h→aE U5 pt tr.length tr w0 h)(hf:aa.fm ⟨h,pl,tr⟩)(hrl:row.length<500000000)(hBr:ag.aq row)(hx:x<1000)(hbits:x*(aa.parts h.ak).toNat*h.dep.toNat+(aa.parts h.ak).toNat*h.dep.toNat≤8*row.length):aA Tryz.prog 52 [.agg #[I6 h.w,I6 h.h,I6 h.dep,I6 h.ak,.bool h.aV],.slice pr row.length cr,I6 (x:Int),.slice pp pl.length cp,.slice pt tr.length ct] [Rr,R] (aF fun e G=>(aa.gB ⟨h,pl,tr⟩ (aa.aM h row x)=none∧e=.tuple #[.agg #[.int .u16 0,.int .u16 0,.int .u16 0,.int .u16 0],.bool false]∧G=[Rr,R])∨∃c0 c1 c2 c3,aa.gB ⟨h,pl,tr⟩ (aa.aM h row x)=some [c0,c1,c2,c3]∧e=.tuple #[.agg #[.int .u16 c0,.int .u16 c1,.int .u16 c2,.int .u16 c3],.bool true]∧G=[Rr,R]):=by
  refine ao [(0,_),(1,_),(2,_),(3,_),(4,_)] Tryz.func52 rfl Tryz.ntmps52 rfl rfl ?_
  intro w0 F
  have hf2:=hf
  unfold aa.fm at hf2
  obtain⟨hde,hB,hBt,hpl,htl,hc0,hc2,hc46,hc3⟩:=hf2
  have hde:aa.deep h.ak h.dep:=hde
  have hB:ag.aq pl:=hB
  have hBt:ag.aq tr:=hBt
  have hpl:pl.length<500000000:=hpl
  have htl:tr.length<500000000:=htl
  have hc0:h.ak=0→tr.length=0∨tr.length=2:=hc0
  have hc2:h.ak=2→tr.length=0∨tr.length=6:=hc2
  have hc46:h.ak=4∨h.ak=6→tr.length=0:=fun q=>by rw[show tr=[] from hc46 q];rfl
  have hpc:=aa.fJ hde
  have hd:=aa.fO hde
  have hdi:=aa.iz hd
  obtain⟨N,hN⟩:∃N,N=(aa.parts h.ak).toNat:=⟨_,rfl⟩
  obtain⟨D,hD⟩:∃D,D=h.dep.toNat:=⟨_,rfl⟩
  rw[←hN,←hD] at hbits
  have hN2:aa.parts h.ak=(N:Int):=omg
  have hD2:h.dep=(D:Int):=omg
  have hcast:(x:Int)*(N:Int)*(D:Int)=((x*N*D:Nat):Int):=by push_cast;rfl
  have hm1:x*N≤x*N*D:=Nat.le_mul_of_pos_right _ omg
  obtain⟨P,hP2⟩:∃P:Int,P=2^h.dep.toNat:=⟨_,rfl⟩
  have hpb:2≤P∧P≤65536:=hP2▸aa.lQ hd
  have hSl:=aa.js h row x
  rw[←hN] at hSl
  refine(QK)<|(Tz) ?_
  intro b5
  refine(uJ) ?_
  intro b10
  refine(Q1) ?_
  refine oV (cE V.MF V.WR rfl (cs:=[.slice pr row.length cr,I6 0,.bool true,.bool false]) rfl)<|jg rfl (cs:=[.slice pr row.length cr,I6 0,.bool true,.bool false]) rfl rfl ?_
  intro gk
  refine(Q1)<|(QY) ?_
  refine oC (tO h.ak) V.nU rfl .nil rfl ?_
  rw[hN2]
  refine(Qe) ?_
  refine oV (fR (r:=(x:Int)*(N:Int)) rfl rfl wI)<|oV (bP V.F1 rfl)<|oV (cn (v:=I6 (D:Int)) (aB V.s3 rfl dz rfl) (congrArg (Value.int .i64) hD2))<|oV (cn (v:=I6 ((x*N*D:Nat):Int)) (fR (r:=(x:Int)*(N:Int)*(D:Int)) rfl rfl (gI (by rw[hcast];omega) (by rw[hcast];omega))) (congrArg (Value.int .i64) hcast))<|(Q9)<|(m9)<|(Q7) ?_
  refine de V.z152 rfl ?_
  intro jW
  refine(Qn) ?_
  rw[show ai jW 152 [I6 0,I6 0,I6 0,I6 0]=ai jW 152 (CA [] .i64 (aa.bu (aa.aM h row x) 0) []) from rfl]
  rw[show((x*N*D:Nat):Int)=((x*N*D+0*D:Nat):Int) from by rw[Nat.zero_mul,Nat.add_zero]]
  refine cF (fun(i:Nat)=>[(3,.slice pp pl.length cp),(4,.slice pt tr.length ct),(5,.pointer (soz b5)),(10,.pointer (soz b10)),(12,.pointer (soz gk)),(13,I6 (N:Int)),(14,.pointer (soz jW)),(15,I6 (i:Int))]) (fun(i:Nat)=>ai gk 151 [.slice pr row.length cr,I6 ((x*N*D+i*D:Nat):Int),.bool true,.bool false]::ai jW 152 (CA [] .i64 (aa.bu (aa.aM h row x) i) [])::ai b10 68 [.int .u16 0,.int .u16 0,.int .u16 0,.int .u16 0]::ai b5 38 [I6 h.w,I6 h.h,I6 h.dep,I6 h.ak,.bool h.aV]::Rr::R::F) (fun(i:Nat)=>i≤N) (fun(i:Nat)=>N-i) (i1 (0) ?_ (eo (bb ln)) (sub (.cons ar (iV .nil)) aj)) ?_
  ·
    exact Nat.zero_le _
  intro i
  rintro hi
  refine(nC) ?_
  refine av rfl (fun h38=>?_) (fun h38=>?_)
  ·
    refine(Q4) ?_
    have hiD:i*D+D≤N*D:=by have:=Nat.mul_le_mul_right D (show i+1≤N by omega);rwa [Nat.add_mul,Nat.one_mul] at this
    have hrl4:=aa.lK (S:=(aa.aM h row x)) (i:=i) omg omg
    refine(Q4) ?_
    refine oV (cn (v:=I6 (D:Int)) (aB V.s3 rfl fX rfl) (congrArg (Value.int .i64) hD2))<|oC (PN gk pr cr row Rr hRr (x*N*D+i*D) false D hrl hBr omg omg) V.lO rfl (an (.cons cB .nil)) rfl<|(Qc) ?_
    refine oV (bZ i rfl V.gX rfl rfl omg)<|cC (om (i:Int) V.s3 rfl rfl (by exact xr) (by(simp only[List.length_cons,List.length_nil];omega)) omg omg)<|(QP) ?_
    rw[aa.RX hN hD omg omg,show x*N*D+i*D+D=x*N*D+(i+1)*D from by rw[Nat.add_mul,Nat.one_mul,Nat.add_assoc]]
    exact j1 (i+1) ⟨omg,omg⟩ (eo (bb ln)) (sub (an (.cons ar (.cons ar (.cons ar (.cons dJ (.cons dJ .nil)))))) aj)
  ·
    refine(oZ) ?_
    refine gv (fun(kb:Bool)=>[(3,.slice pp pl.length cp),(4,.slice pt tr.length ct),(5,.pointer (soz b5)),(10,.pointer (soz b10)),(14,.pointer (soz jW)),(16,.bool kb)]) (fun(kb:Bool)=>ai gk 151 [.slice pr row.length cr,I6 ((x*N*D+N*D:Nat):Int),.bool true,.bool false]::ai jW 152 (CA [] .i64 (aa.bu (aa.aM h row x) N) [])::ai b10 68 [.int .u16 0,.int .u16 0,.int .u16 0,.int .u16 0]::ai b5 38 [I6 h.w,I6 h.h,I6 h.dep,I6 h.ak,.bool h.aV]::Rr::R::F) (fun(kb:Bool)=>¬h.ak=3→kb=aa.ky h tr (aa.aM h row x) N) ?_ ?_
    ·
      refine rL TT 1 rfl ?_
      obtain rfl:N=i:=omg
      have hrl4:=aa.lK (S:=(aa.aM h row x)) (i:=N) omg omg
      refine(Qb) ?_
      rw[show(decide (0<(tr.length:Int)))=aa.ky h tr (aa.aM h row x) 0 from(aa.YN h tr (aa.aM h row x)).symm]
      refine cF (fun(i:Nat)=>[(3,.slice pp pl.length cp),(4,.slice pt tr.length ct),(5,.pointer (soz b5)),(10,.pointer (soz b10)),(13,I6 (N:Int)),(14,.pointer (soz jW)),(16,.bool (aa.ky h tr (aa.aM h row x) i)),(17,I6 (i:Int))]) (fun(i:Nat)=>ai gk 151 [.slice pr row.length cr,I6 ((x*N*D+N*D:Nat):Int),.bool true,.bool false]::ai jW 152 (CA [] .i64 (aa.bu (aa.aM h row x) N) [])::ai b10 68 [.int .u16 0,.int .u16 0,.int .u16 0,.int .u16 0]::ai b5 38 [I6 h.w,I6 h.h,I6 h.dep,I6 h.ak,.bool h.aV]::Rr::R::F) (fun(i:Nat)=>i≤N) (fun(i:Nat)=>N-i) (i1 (0) ?_ (eo (bb ln)) (sub (an (iV .nil)) aj)) ?_
      ·
        exact Nat.zero_le _
      intro i
      rintro hi
      rcases(aa.d11 i N (aa.ky h tr (aa.aM h row x) i) h.ak) with a1|⟨a1,a2⟩|⟨a1,a2,a3⟩|⟨a1,a2,a3⟩
      ·
        refine(lY)<|(QL)<|(QC) ?_
        (exact j1 (aa.ky h tr (aa.aM h row x) i) (fun _=>by rw[show i=N by omega]) (iw (bb ln)) (sub (an (iV .nil)) aj))
      ·
        refine(lY)<|(QG)<|(Q8) ?_
        rw[a2]
        refine(QE) ?_
        (exact j1 false (fun _=>(aa.ab1 a2 omg).symm) (iw (bb ln)) (sub (an (iV .nil)) aj))
      ·
        refine(lY)<|(QG)<|(Q8) ?_
        rw[a2]
        refine(Qu)<|(Qt)<|(Q0) ?_
        refine oV (bC (bO rfl rfl) (fun q=>q a3))<|(Qe) ?_
        (exact j1 true (fun q=>absurd a3 q) (iw (bb ln)) (sub (an (iV .nil)) aj))
      ·
        refine(lY)<|(QG)<|(Q8) ?_
        rw[a2]
        refine(Qu)<|(Qt)<|(Q0) ?_
        refine oV (bQ (bO rfl rfl) a3)<|(Qe) ?_
        have htp:=aa.Vm a2
        have hh2:0≤(aa.iE tr (2*i) 2)∧(aa.iE tr (2*i) 2)<65536:=by have:=hBt.get (2*i);have:=hBt.get (2*i+1);rw[aa.MG];omega
        refine wN [pz 0 [] [16],pz 1 [0] [],pz 3 [1] [4],pz 3 [1] [17],pz 11 [3,1] [],pz 31 [2,4,1] [],pz 3 [1] [5],pz 67 [6,1] [],pz 195 [7,1] [],pz 451 [8,1] [],pz 963 [9,1] [],pz 2047 [5,10,1] [],pz 3 [1] [17],pz 4099 [12,1] [14],pz 12291 [13,1] [],pz 32767 [11,14,1] [],pz 65535 [1,15] [],pz 131071 [16] []] [⟨fun y=>ai gk 151 [.slice pr row.length cr,I6 ((x*N*D+N*D:Nat):Int),.bool true,.bool false],none,none,[]⟩,⟨fun y=>ai jW 152 (CA [] .i64 (aa.bu (aa.aM h row x) N) []),none,none,[14]⟩,⟨fun y=>ai b10 68 [.int .u16 0,.int .u16 0,.int .u16 0,.int .u16 0],none,none,[]⟩,⟨fun y=>ai b5 38 [I6 h.w,I6 h.h,I6 h.dep,I6 h.ak,.bool h.aV],none,none,[7]⟩,⟨fun y=>Rr,none,none,[]⟩,⟨fun y=>R,none,none,[5]⟩] F V.mixed ?_
        iterate 2 refine nM ?_
        refine(yD) ?_
        refine(yD) ?_
        refine dv _ (fun y=>rfl) rfl rfl rfl (fun y hA L=>eR rfl (dm (cn (v:=I6 ((2*i:Nat):Int)) (fR (r:=2*(i:Int)) rfl rfl wI) (congrArg (Value.int .i64) omg)) ⟨rfl,rfl⟩)) (by intros;rfl) (by intro y y2 h;rfl) ?_
        refine nE (fun y FF hA=>eR rfl (aO (Post:=[R]) (BU pt ct tr R hT hBt htl (2*i) 2 dec omg) V.yN rfl (an .nil) (fun v G h=>by rcases h with⟨rfl,rfl⟩;exact⟨rfl,.refl _⟩))) ?_
        refine dv _ (fun y=>rfl) rfl rfl rfl (fun y hA L=>eR rfl (dm (bP V.F1 rfl) ⟨rfl,rfl⟩)) (by intros;rfl) (by intro y y2 h;rfl) ?_
        refine(VY) ?_
        refine dv _ (fun y=>rfl) rfl rfl rfl (fun y hA L=>eR rfl (dm (cS V.u3 Tryz.underlying52 rfl (FY omg omg)) ⟨rfl,rfl⟩)) (by intros;rfl) (by intro y y2 h;rfl) ?_
        refine dv _ (fun y=>rfl) rfl rfl rfl (fun y hA L=>eR rfl (dm (fk (r:=P) rfl rfl omg ((aa.ym hd).trans hP2.symm)) ⟨rfl,rfl⟩)) (by intros;rfl) (by intro y y2 h;rfl) ?_
        refine(UY) ?_
        refine dv _ (fun y=>rfl) rfl rfl rfl (fun y hA L=>eR rfl (dm (iT (r:=(aa.iE tr (2*i) 2)%P) rfl rfl (aa.DV hP2 hd hh2)) ⟨rfl,rfl⟩)) (by intros;rfl) (by intro y y2 h;rfl) ?_
        refine(yD) ?_
        refine dv _ (fun y=>rfl) rfl rfl rfl (fun y hA L=>eR rfl (dm (bZ i rfl V.gX rfl rfl omg) ⟨rfl,rfl⟩)) (by intros;rfl) (by intro y y2 h;rfl) ?_
        refine lM _ _ (fun y=>rfl) rfl (fun y=>rfl) rfl (fun y FF hA=>eR rfl (dm (eh (i:Int) V.s3 rfl ay (by(simp only[List.length_cons,List.length_nil];omega)) omg omg) ⟨rfl,rfl⟩)) (by intros;rfl) (by intro y y2 h;rfl) ?_
        refine dv _ (fun y=>rfl) rfl rfl rfl (fun y hA L=>eR rfl (dm (bG rfl rfl) ⟨rfl,rfl⟩)) (by intros;rfl) (by intro y y2 h;rfl) ?_
        refine nV (fun y hA L=>ow rfl rfl) ?_
        refine nA ?_
        refine(Qi) ?_
        intro y hA
        clear hA
        show ks _ _ _ _ (ai gk 151 [.slice pr row.length cr,I6 ((x*N*D+N*D:Nat):Int),.bool true,.bool false]::ai jW 152 (CA [] .i64 (aa.bu (aa.aM h row x) N) [])::ai b10 68 [.int .u16 0,.int .u16 0,.int .u16 0,.int .u16 0]::ai b5 38 [I6 h.w,I6 h.h,I6 h.dep,I6 h.ak,.bool h.aV]::Rr::R::F)
        refine(uR)<|(sF)<|(tu) ?_
        rw[show decide (((aa.iE tr (2*i) 2)%P)=((aa.bu (aa.aM h row x) N).getD ((i:Int).toNat) 0))=aa.ky h tr (aa.aM h row x) (i+1) from by rw[aa.abW a2,←hP2,aa.MG,show((i:Int)).toNat=i from rfl,aa.jL hN omg]]
        exact j1 (i+1) ⟨omg,omg⟩ (eo (bb ln)) (sub (an (iV .nil)) aj)
    ·
      intro kb
      rintro hkb
      refine(Qb) ?_
      refine gv (fun(al:Int)=>[(3,.slice pp pl.length cp),(4,.slice pt tr.length ct),(5,.pointer (soz b5)),(10,.pointer (soz b10)),(14,.pointer (soz jW)),(18,.int .u16 al)]) (fun(al:Int)=>ai gk 151 [.slice pr row.length cr,I6 ((x*N*D+N*D:Nat):Int),.bool true,.bool false]::ai jW 152 (CA [] .i64 (aa.bu (aa.aM h row x) N) [])::ai b10 68 [.int .u16 0,.int .u16 0,.int .u16 0,.int .u16 0]::ai b5 38 [I6 h.w,I6 h.h,I6 h.dep,I6 h.ak,.bool h.aV]::Rr::R::F) (fun(al:Int)=>¬h.ak=3→al=if aa.ky h tr (aa.aM h row x) N then 0 else 65535) ?_ ?_
      ·
        rcases(aa.tf kb) with rfl|rfl
        ·
          refine(pe) ?_
          refine j1 (_) ?_ (iw (bb ln)) (sub (an (iV .nil)) aj)
          exact fun q=>by rw[←hkb q];rfl
        ·
          refine(qP) ?_
          refine j1 (_) ?_ (iw (bb ln)) (sub (an (iV .nil)) aj)
          exact fun q=>by rw[←hkb q];rfl
      ·
        intro al
        rintro hal
        rcases(aa.d17 hpc) with⟨e0,hNp⟩|⟨e0,e2,hNp⟩|⟨e0,e2,e4,hNp⟩|⟨e0,e2,e4,e6,hNp⟩|⟨e0,e2,e4,e6,e3,hNp⟩
        ·
          refine(Q5) ?_
          have hrl4:=aa.lK (S:=(aa.aM h row x)) (i:=N) omg omg
          have hr:∀j:Nat,j<N→0≤(aa.bu (aa.aM h row x) N).getD j 0∧(aa.bu (aa.aM h row x) N).getD j 0<2^h.dep.toNat:=fun j hj=>by rw[aa.jL hN hj];exact aa.lS _ (aa.fN omg)
          have hq:∀j:Nat,j<N→((aa.aM h row x).map (aa.up h.dep)).getD j 0=aa.up h.dep ((aa.bu (aa.aM h row x) N).getD j 0):=fun j hj=>by rw[aa.oz omg,aa.jL hN hj]
          refine rC TT 2 rfl ?_
          refine oV (aB V.s3 rfl fX rfl) ?_
          refine rO TT 5 rfl ?_
          refine oV (bQ (bG rfl rfl) e0) ?_
          refine rO TT 5 rfl ?_
          refine wN [pz 0 [] [5],pz 0 [] [14],pz 2 [1] [],pz 7 [0,2] [],pz 0 [] [5],pz 0 [] [14],pz 32 [5] [],pz 127 [4,6] [],pz 0 [] [5],pz 0 [] [14],pz 512 [9] [],pz 2047 [8,10] [],pz 0 [] [18],pz 8191 [3,7,11,12] [],pz 16383 [13] [10],pz 32767 [] []] [⟨fun y=>ai gk 151 [.slice pr row.length cr,I6 ((x*N*D+N*D:Nat):Int),.bool true,.bool false],none,none,[]⟩,⟨fun y=>ai jW 152 (CA [] .i64 (aa.bu (aa.aM h row x) N) []),none,none,[2,6,10]⟩,⟨fun y=>ai b10 68 [.int .u16 0,.int .u16 0,.int .u16 0,.int .u16 0],none,some 14,[]⟩,⟨fun y=>ai b5 38 [I6 h.w,I6 h.h,I6 h.dep,I6 h.ak,.bool h.aV],none,none,[0,4,8]⟩,⟨fun y=>Rr,none,none,[]⟩,⟨fun y=>R,none,none,[]⟩,⟨fun y=>ai b10 68 [.int .u16 (aa.up h.dep ((aa.bu (aa.aM h row x) N).getD ((0:Int).toNat) 0)),.int .u16 (aa.up h.dep ((aa.bu (aa.aM h row x) N).getD ((0:Int).toNat) 0)),.int .u16 (aa.up h.dep ((aa.bu (aa.aM h row x) N).getD ((0:Int).toNat) 0)),.int .u16 al],some 14,none,[]⟩] F V.mixed ?_
          refine nR (fun y FF hA=>bU V.iy rfl ay (vs:=[_,_,_,_,_]) rfl rfl) ?_
          refine nV (fun y hA L=>bZ 0 rfl V.gX rfl rfl omg) ?_
          refine nR (fun y FF hA=>eh (0:Int) V.s3 rfl ay (by(simp only[List.length_cons,List.length_nil];omega)) omg omg) ?_
          refine nE (fun y FF hA=>aO (Post:=[]) (kQ h.w h.h h.ak h.aV h.dep ((aa.bu (aa.aM h row x) N).getD ((0:Int).toNat) 0) hd (hr 0 omg)) V.nc rfl .nil (fun v G h=>by rcases h with⟨rfl,rfl⟩;exact⟨rfl,.refl _⟩)) ?_
          refine nR (fun y FF hA=>bU V.iy rfl ay (vs:=[_,_,_,_,_]) rfl rfl) ?_
          refine nV (fun y hA L=>bZ 0 rfl V.gX rfl rfl omg) ?_
          refine nR (fun y FF hA=>eh (0:Int) V.s3 rfl ay (by(simp only[List.length_cons,List.length_nil];omega)) omg omg) ?_
          refine nE (fun y FF hA=>aO (Post:=[]) (kQ h.w h.h h.ak h.aV h.dep ((aa.bu (aa.aM h row x) N).getD ((0:Int).toNat) 0) hd (hr 0 omg)) V.nc rfl .nil (fun v G h=>by rcases h with⟨rfl,rfl⟩;exact⟨rfl,.refl _⟩)) ?_
          refine nR (fun y FF hA=>bU V.iy rfl ay (vs:=[_,_,_,_,_]) rfl rfl) ?_
          refine nV (fun y hA L=>bZ 0 rfl V.gX rfl rfl omg) ?_
          refine nR (fun y FF hA=>eh (0:Int) V.s3 rfl ay (by(simp only[List.length_cons,List.length_nil];omega)) omg omg) ?_
          refine nE (fun y FF hA=>aO (Post:=[]) (kQ h.w h.h h.ak h.aV h.dep ((aa.bu (aa.aM h row x) N).getD ((0:Int).toNat) 0) hd (hr 0 omg)) V.nc rfl .nil (fun v G h=>by rcases h with⟨rfl,rfl⟩;exact⟨rfl,.refl _⟩)) ?_
          refine nM ?_
          refine nV (fun y hA L=>gb V.lH V.oY rfl (cs:=[.int .u16 (aa.up h.dep ((aa.bu (aa.aM h row x) N).getD ((0:Int).toNat) 0)),.int .u16 (aa.up h.dep ((aa.bu (aa.aM h row x) N).getD ((0:Int).toNat) 0)),.int .u16 (aa.up h.dep ((aa.bu (aa.aM h row x) N).getD ((0:Int).toNat) 0)),.int .u16 al]) (by kernel_rfl)) ?_
          refine nE (fun y FF hA=>dm (aZ V.jQ rfl rfl (us:=[_,_,_,_]) rfl rfl (by exact ft) (by exact Nat.le_of_ble_eq_true rfl) rfl) ⟨rfl,.refl _⟩) ?_
          refine nA ?_
          refine cZ ?_
          intro y hA
          clear hA
          refine bJ<|(MW) ?_
          refine bA (M:=ai gk 151 [.slice pr row.length cr,I6 ((x*N*D+N*D:Nat):Int),.bool true,.bool false]::ai jW 152 (CA [] .i64 (aa.bu (aa.aM h row x) N) [])::ai b5 38 [I6 h.w,I6 h.h,I6 h.dep,I6 h.ak,.bool h.aV]::Rr::R::ai b10 68 [.int .u16 (aa.up h.dep ((aa.bu (aa.aM h row x) N).getD ((0:Int).toNat) 0)),.int .u16 (aa.up h.dep ((aa.bu (aa.aM h row x) N).getD ((0:Int).toNat) 0)),.int .u16 (aa.up h.dep ((aa.bu (aa.aM h row x) N).getD ((0:Int).toNat) 0)),.int .u16 al]::F) (fun _ _ h=>h)<|(Q3) ?_
          exact af (cH V.jQ rfl wW rfl rfl) (.inr ⟨_,_,_,_,(by rw[aa.um (f:=⟨h,pl,tr⟩) (.inl e0),hq 0 omg,aa.Gm (f:=⟨h,pl,tr⟩) (by show¬(h.ak=4∨h.ak=6);omega) (aa.I9 hf (hSl.trans hN) (by show¬h.ak=3;omega)),←hN,←hal omg];rfl),rfl,rfl⟩) (sub (.cons cB (.cons cB .nil)) gF)
        ·
          refine(Q5) ?_
          have hrl4:=aa.lK (S:=(aa.aM h row x)) (i:=N) omg omg
          have hr:∀j:Nat,j<N→0≤(aa.bu (aa.aM h row x) N).getD j 0∧(aa.bu (aa.aM h row x) N).getD j 0<2^h.dep.toNat:=fun j hj=>by rw[aa.jL hN hj];exact aa.lS _ (aa.fN omg)
          have hq:∀j:Nat,j<N→((aa.aM h row x).map (aa.up h.dep)).getD j 0=aa.up h.dep ((aa.bu (aa.aM h row x) N).getD j 0):=fun j hj=>by rw[aa.oz omg,aa.jL hN hj]
          refine rC TT 2 rfl ?_
          refine oV (aB V.s3 rfl fX rfl) ?_
          refine rO TT 5 rfl ?_
          refine oV (bC (bG rfl rfl) e0) ?_
          refine rO TT 6 rfl ?_
          refine oV (bQ (bG rfl rfl) e2) ?_
          refine rO TT 5 rfl ?_
          refine wN [pz 0 [] [5],pz 0 [] [14],pz 2 [1] [],pz 7 [0,2] [],pz 0 [] [5],pz 0 [] [14],pz 32 [5] [],pz 127 [4,6] [],pz 0 [] [5],pz 0 [] [14],pz 512 [9] [],pz 2047 [8,10] [],pz 0 [] [18],pz 8191 [3,7,11,12] [],pz 16383 [13] [10],pz 32767 [] []] [⟨fun y=>ai gk 151 [.slice pr row.length cr,I6 ((x*N*D+N*D:Nat):Int),.bool true,.bool false],none,none,[]⟩,⟨fun y=>ai jW 152 (CA [] .i64 (aa.bu (aa.aM h row x) N) []),none,none,[2,6,10]⟩,⟨fun y=>ai b10 68 [.int .u16 0,.int .u16 0,.int .u16 0,.int .u16 0],none,some 14,[]⟩,⟨fun y=>ai b5 38 [I6 h.w,I6 h.h,I6 h.dep,I6 h.ak,.bool h.aV],none,none,[0,4,8]⟩,⟨fun y=>Rr,none,none,[]⟩,⟨fun y=>R,none,none,[]⟩,⟨fun y=>ai b10 68 [.int .u16 (aa.up h.dep ((aa.bu (aa.aM h row x) N).getD ((0:Int).toNat) 0)),.int .u16 (aa.up h.dep ((aa.bu (aa.aM h row x) N).getD ((1:Int).toNat) 0)),.int .u16 (aa.up h.dep ((aa.bu (aa.aM h row x) N).getD ((2:Int).toNat) 0)),.int .u16 al],some 14,none,[]⟩] F V.mixed ?_
          refine nR (fun y FF hA=>bU V.iy rfl ay (vs:=[_,_,_,_,_]) rfl rfl) ?_
          refine nV (fun y hA L=>bZ 0 rfl V.gX rfl rfl omg) ?_
          refine nR (fun y FF hA=>eh (0:Int) V.s3 rfl ay (by(simp only[List.length_cons,List.length_nil];omega)) omg omg) ?_
          refine nE (fun y FF hA=>aO (Post:=[]) (kQ h.w h.h h.ak h.aV h.dep ((aa.bu (aa.aM h row x) N).getD ((0:Int).toNat) 0) hd (hr 0 omg)) V.nc rfl .nil (fun v G h=>by rcases h with⟨rfl,rfl⟩;exact⟨rfl,.refl _⟩)) ?_
          refine nR (fun y FF hA=>bU V.iy rfl ay (vs:=[_,_,_,_,_]) rfl rfl) ?_
          refine nV (fun y hA L=>bZ 1 rfl V.gX rfl rfl omg) ?_
          refine nR (fun y FF hA=>eh (1:Int) V.s3 rfl ay (by(simp only[List.length_cons,List.length_nil];omega)) omg omg) ?_
          refine nE (fun y FF hA=>aO (Post:=[]) (kQ h.w h.h h.ak h.aV h.dep ((aa.bu (aa.aM h row x) N).getD ((1:Int).toNat) 0) hd (hr 1 omg)) V.nc rfl .nil (fun v G h=>by rcases h with⟨rfl,rfl⟩;exact⟨rfl,.refl _⟩)) ?_
          refine nR (fun y FF hA=>bU V.iy rfl ay (vs:=[_,_,_,_,_]) rfl rfl) ?_
          refine nV (fun y hA L=>bZ 2 rfl V.gX rfl rfl omg) ?_
          refine nR (fun y FF hA=>eh (2:Int) V.s3 rfl ay (by(simp only[List.length_cons,List.length_nil];omega)) omg omg) ?_
          refine nE (fun y FF hA=>aO (Post:=[]) (kQ h.w h.h h.ak h.aV h.dep ((aa.bu (aa.aM h row x) N).getD ((2:Int).toNat) 0) hd (hr 2 omg)) V.nc rfl .nil (fun v G h=>by rcases h with⟨rfl,rfl⟩;exact⟨rfl,.refl _⟩)) ?_
          refine nM ?_
          refine nV (fun y hA L=>gb V.lH V.oY rfl (cs:=[.int .u16 (aa.up h.dep ((aa.bu (aa.aM h row x) N).getD ((0:Int).toNat) 0)),.int .u16 (aa.up h.dep ((aa.bu (aa.aM h row x) N).getD ((1:Int).toNat) 0)),.int .u16 (aa.up h.dep ((aa.bu (aa.aM h row x) N).getD ((2:Int).toNat) 0)),.int .u16 al]) (by kernel_rfl)) ?_
          refine nE (fun y FF hA=>dm (aZ V.jQ rfl rfl (us:=[_,_,_,_]) rfl rfl (by exact ft) (by exact Nat.le_of_ble_eq_true rfl) rfl) ⟨rfl,.refl _⟩) ?_
          refine nA ?_
          refine(Qi) ?_
          intro y hA
          clear hA
          refine bJ<|(MW) ?_
          refine bA (M:=ai gk 151 [.slice pr row.length cr,I6 ((x*N*D+N*D:Nat):Int),.bool true,.bool false]::ai jW 152 (CA [] .i64 (aa.bu (aa.aM h row x) N) [])::ai b5 38 [I6 h.w,I6 h.h,I6 h.dep,I6 h.ak,.bool h.aV]::Rr::R::ai b10 68 [.int .u16 (aa.up h.dep ((aa.bu (aa.aM h row x) N).getD ((0:Int).toNat) 0)),.int .u16 (aa.up h.dep ((aa.bu (aa.aM h row x) N).getD ((1:Int).toNat) 0)),.int .u16 (aa.up h.dep ((aa.bu (aa.aM h row x) N).getD ((2:Int).toNat) 0)),.int .u16 al]::F) (fun _ _ h=>h)<|(Q3) ?_
          exact af (cH V.jQ rfl wW rfl rfl) (.inr ⟨_,_,_,_,(by rw[aa.yh (f:=⟨h,pl,tr⟩) (by show¬(h.ak=0∨h.ak=4);omega) (by show¬h.ak=3;omega),hq 0 omg,hq 1 omg,hq 2 omg,aa.Gm (f:=⟨h,pl,tr⟩) (by show¬(h.ak=4∨h.ak=6);omega) (aa.I9 hf (hSl.trans hN) (by show¬h.ak=3;omega)),←hN,←hal omg];rfl),rfl,rfl⟩) (sub (.cons cB (.cons cB .nil)) gF)
        ·
          refine(Q5) ?_
          have hrl4:=aa.lK (S:=(aa.aM h row x)) (i:=N) omg omg
          have hr:∀j:Nat,j<N→0≤(aa.bu (aa.aM h row x) N).getD j 0∧(aa.bu (aa.aM h row x) N).getD j 0<2^h.dep.toNat:=fun j hj=>by rw[aa.jL hN hj];exact aa.lS _ (aa.fN omg)
          have hq:∀j:Nat,j<N→((aa.aM h row x).map (aa.up h.dep)).getD j 0=aa.up h.dep ((aa.bu (aa.aM h row x) N).getD j 0):=fun j hj=>by rw[aa.oz omg,aa.jL hN hj]
          refine rC TT 2 rfl ?_
          refine oV (aB V.s3 rfl fX rfl) ?_
          refine rO TT 5 rfl ?_
          refine oV (bC (bG rfl rfl) e0) ?_
          refine rO TT 6 rfl ?_
          refine oV (bC (bG rfl rfl) e2) ?_
          refine rO TT 6 rfl ?_
          refine oV (bQ (bG rfl rfl) e4) ?_
          refine rO TT 5 rfl ?_
          refine wN [pz 0 [] [5],pz 0 [] [14],pz 2 [1] [],pz 7 [0,2] [],pz 0 [] [5],pz 0 [] [14],pz 32 [5] [],pz 127 [4,6] [],pz 0 [] [5],pz 0 [] [14],pz 512 [9] [],pz 2047 [8,10] [],pz 0 [] [5],pz 0 [] [14],pz 8192 [13] [],pz 32767 [12,14] [],pz 65535 [3,7,11,15] [],pz 131071 [16] [10],pz 262143 [] []] [⟨fun y=>ai gk 151 [.slice pr row.length cr,I6 ((x*N*D+N*D:Nat):Int),.bool true,.bool false],none,none,[]⟩,⟨fun y=>ai jW 152 (CA [] .i64 (aa.bu (aa.aM h row x) N) []),none,none,[2,6,10,14]⟩,⟨fun y=>ai b10 68 [.int .u16 0,.int .u16 0,.int .u16 0,.int .u16 0],none,some 17,[]⟩,⟨fun y=>ai b5 38 [I6 h.w,I6 h.h,I6 h.dep,I6 h.ak,.bool h.aV],none,none,[0,4,8,12]⟩,⟨fun y=>Rr,none,none,[]⟩,⟨fun y=>R,none,none,[]⟩,⟨fun y=>ai b10 68 [.int .u16 (aa.up h.dep ((aa.bu (aa.aM h row x) N).getD ((0:Int).toNat) 0)),.int .u16 (aa.up h.dep ((aa.bu (aa.aM h row x) N).getD ((0:Int).toNat) 0)),.int .u16 (aa.up h.dep ((aa.bu (aa.aM h row x) N).getD ((0:Int).toNat) 0)),.int .u16 (aa.up h.dep ((aa.bu (aa.aM h row x) N).getD ((1:Int).toNat) 0))],some 17,none,[]⟩] F V.mixed ?_
          refine nR (fun y FF hA=>bU V.iy rfl ay (vs:=[_,_,_,_,_]) rfl rfl) ?_
          refine nV (fun y hA L=>bZ 0 rfl V.gX rfl rfl omg) ?_
          refine nR (fun y FF hA=>eh (0:Int) V.s3 rfl ay (by(simp only[List.length_cons,List.length_nil];omega)) omg omg) ?_
          refine nE (fun y FF hA=>aO (Post:=[]) (kQ h.w h.h h.ak h.aV h.dep ((aa.bu (aa.aM h row x) N).getD ((0:Int).toNat) 0) hd (hr 0 omg)) V.nc rfl .nil (fun v G h=>by rcases h with⟨rfl,rfl⟩;exact⟨rfl,.refl _⟩)) ?_
          refine nR (fun y FF hA=>bU V.iy rfl ay (vs:=[_,_,_,_,_]) rfl rfl) ?_
          refine nV (fun y hA L=>bZ 0 rfl V.gX rfl rfl omg) ?_
          refine nR (fun y FF hA=>eh (0:Int) V.s3 rfl ay (by(simp only[List.length_cons,List.length_nil];omega)) omg omg) ?_
          refine nE (fun y FF hA=>aO (Post:=[]) (kQ h.w h.h h.ak h.aV h.dep ((aa.bu (aa.aM h row x) N).getD ((0:Int).toNat) 0) hd (hr 0 omg)) V.nc rfl .nil (fun v G h=>by rcases h with⟨rfl,rfl⟩;exact⟨rfl,.refl _⟩)) ?_
          refine nR (fun y FF hA=>bU V.iy rfl ay (vs:=[_,_,_,_,_]) rfl rfl) ?_
          refine nV (fun y hA L=>bZ 0 rfl V.gX rfl rfl omg) ?_
          refine nR (fun y FF hA=>eh (0:Int) V.s3 rfl ay (by(simp only[List.length_cons,List.length_nil];omega)) omg omg) ?_
          refine nE (fun y FF hA=>aO (Post:=[]) (kQ h.w h.h h.ak h.aV h.dep ((aa.bu (aa.aM h row x) N).getD ((0:Int).toNat) 0) hd (hr 0 omg)) V.nc rfl .nil (fun v G h=>by rcases h with⟨rfl,rfl⟩;exact⟨rfl,.refl _⟩)) ?_
          refine nR (fun y FF hA=>bU V.iy rfl ay (vs:=[_,_,_,_,_]) rfl rfl) ?_
          refine nV (fun y hA L=>bZ 1 rfl V.gX rfl rfl omg) ?_
          refine nR (fun y FF hA=>eh (1:Int) V.s3 rfl ay (by(simp only[List.length_cons,List.length_nil];omega)) omg omg) ?_
          refine nE (fun y FF hA=>aO (Post:=[]) (kQ h.w h.h h.ak h.aV h.dep ((aa.bu (aa.aM h row x) N).getD ((1:Int).toNat) 0) hd (hr 1 omg)) V.nc rfl .nil (fun v G h=>by rcases h with⟨rfl,rfl⟩;exact⟨rfl,.refl _⟩)) ?_
          refine nV (fun y hA L=>gb V.lH V.oY rfl (cs:=[.int .u16 (aa.up h.dep ((aa.bu (aa.aM h row x) N).getD ((0:Int).toNat) 0)),.int .u16 (aa.up h.dep ((aa.bu (aa.aM h row x) N).getD ((0:Int).toNat) 0)),.int .u16 (aa.up h.dep ((aa.bu (aa.aM h row x) N).getD ((0:Int).toNat) 0)),.int .u16 (aa.up h.dep ((aa.bu (aa.aM h row x) N).getD ((1:Int).toNat) 0))]) (by kernel_rfl)) ?_
          refine nE (fun y FF hA=>dm (aZ V.jQ rfl rfl (us:=[_,_,_,_]) rfl rfl (by exact ft) (by exact Nat.le_of_ble_eq_true rfl) rfl) ⟨rfl,.refl _⟩) ?_
          refine nA ?_
          refine cZ ?_
          intro y hA
          clear hA
          refine bJ<|(MW) ?_
          refine bA (M:=ai gk 151 [.slice pr row.length cr,I6 ((x*N*D+N*D:Nat):Int),.bool true,.bool false]::ai jW 152 (CA [] .i64 (aa.bu (aa.aM h row x) N) [])::ai b5 38 [I6 h.w,I6 h.h,I6 h.dep,I6 h.ak,.bool h.aV]::Rr::R::ai b10 68 [.int .u16 (aa.up h.dep ((aa.bu (aa.aM h row x) N).getD ((0:Int).toNat) 0)),.int .u16 (aa.up h.dep ((aa.bu (aa.aM h row x) N).getD ((0:Int).toNat) 0)),.int .u16 (aa.up h.dep ((aa.bu (aa.aM h row x) N).getD ((0:Int).toNat) 0)),.int .u16 (aa.up h.dep ((aa.bu (aa.aM h row x) N).getD ((1:Int).toNat) 0))]::F) (fun _ _ h=>h)<|(Q3) ?_
          exact af (cH V.jQ rfl wW rfl rfl) (.inr ⟨_,_,_,_,(by rw[aa.um (f:=⟨h,pl,tr⟩) (.inr e4),hq 0 omg,aa.I5 hf (aa.aM h row x) (.inl e4),hSl,show N-1=1 by omega,hq 1 omg];rfl),rfl,rfl⟩) (sub (.cons cB (.cons cB .nil)) gF)
        ·
          refine(Q5) ?_
          have hrl4:=aa.lK (S:=(aa.aM h row x)) (i:=N) omg omg
          have hr:∀j:Nat,j<N→0≤(aa.bu (aa.aM h row x) N).getD j 0∧(aa.bu (aa.aM h row x) N).getD j 0<2^h.dep.toNat:=fun j hj=>by rw[aa.jL hN hj];exact aa.lS _ (aa.fN omg)
          have hq:∀j:Nat,j<N→((aa.aM h row x).map (aa.up h.dep)).getD j 0=aa.up h.dep ((aa.bu (aa.aM h row x) N).getD j 0):=fun j hj=>by rw[aa.oz omg,aa.jL hN hj]
          refine rC TT 2 rfl ?_
          refine oV (aB V.s3 rfl fX rfl) ?_
          refine rO TT 5 rfl ?_
          refine oV (bC (bG rfl rfl) e0) ?_
          refine rO TT 6 rfl ?_
          refine oV (bC (bG rfl rfl) e2) ?_
          refine rO TT 6 rfl ?_
          refine oV (bC (bG rfl rfl) e4) ?_
          refine rO TT 6 rfl ?_
          refine oV (bQ (bG rfl rfl) e6) ?_
          refine rO TT 5 rfl ?_
          refine wN [pz 0 [] [5],pz 0 [] [14],pz 2 [1] [],pz 7 [0,2] [],pz 0 [] [5],pz 0 [] [14],pz 32 [5] [],pz 127 [4,6] [],pz 0 [] [5],pz 0 [] [14],pz 512 [9] [],pz 2047 [8,10] [],pz 0 [] [5],pz 0 [] [14],pz 8192 [13] [],pz 32767 [12,14] [],pz 65535 [3,7,11,15] [],pz 131071 [16] [10],pz 262143 [] []] [⟨fun y=>ai gk 151 [.slice pr row.length cr,I6 ((x*N*D+N*D:Nat):Int),.bool true,.bool false],none,none,[]⟩,⟨fun y=>ai jW 152 (CA [] .i64 (aa.bu (aa.aM h row x) N) []),none,none,[2,6,10,14]⟩,⟨fun y=>ai b10 68 [.int .u16 0,.int .u16 0,.int .u16 0,.int .u16 0],none,some 17,[]⟩,⟨fun y=>ai b5 38 [I6 h.w,I6 h.h,I6 h.dep,I6 h.ak,.bool h.aV],none,none,[0,4,8,12]⟩,⟨fun y=>Rr,none,none,[]⟩,⟨fun y=>R,none,none,[]⟩,⟨fun y=>ai b10 68 [.int .u16 (aa.up h.dep ((aa.bu (aa.aM h row x) N).getD ((0:Int).toNat) 0)),.int .u16 (aa.up h.dep ((aa.bu (aa.aM h row x) N).getD ((1:Int).toNat) 0)),.int .u16 (aa.up h.dep ((aa.bu (aa.aM h row x) N).getD ((2:Int).toNat) 0)),.int .u16 (aa.up h.dep ((aa.bu (aa.aM h row x) N).getD ((3:Int).toNat) 0))],some 17,none,[]⟩] F V.mixed ?_
          refine nR (fun y FF hA=>bU V.iy rfl ay (vs:=[_,_,_,_,_]) rfl rfl) ?_
          refine nV (fun y hA L=>bZ 0 rfl V.gX rfl rfl omg) ?_
          refine nR (fun y FF hA=>eh (0:Int) V.s3 rfl ay (by(simp only[List.length_cons,List.length_nil];omega)) omg omg) ?_
          refine nE (fun y FF hA=>aO (Post:=[]) (kQ h.w h.h h.ak h.aV h.dep ((aa.bu (aa.aM h row x) N).getD ((0:Int).toNat) 0) hd (hr 0 omg)) V.nc rfl .nil (fun v G h=>by rcases h with⟨rfl,rfl⟩;exact⟨rfl,.refl _⟩)) ?_
          refine nR (fun y FF hA=>bU V.iy rfl ay (vs:=[_,_,_,_,_]) rfl rfl) ?_
          refine nV (fun y hA L=>bZ 1 rfl V.gX rfl rfl omg) ?_
          refine nR (fun y FF hA=>eh (1:Int) V.s3 rfl ay (by(simp only[List.length_cons,List.length_nil];omega)) omg omg) ?_
          refine nE (fun y FF hA=>aO (Post:=[]) (kQ h.w h.h h.ak h.aV h.dep ((aa.bu (aa.aM h row x) N).getD ((1:Int).toNat) 0) hd (hr 1 omg)) V.nc rfl .nil (fun v G h=>by rcases h with⟨rfl,rfl⟩;exact⟨rfl,.refl _⟩)) ?_
          refine nR (fun y FF hA=>bU V.iy rfl ay (vs:=[_,_,_,_,_]) rfl rfl) ?_
          refine nV (fun y hA L=>bZ 2 rfl V.gX rfl rfl omg) ?_
          refine nR (fun y FF hA=>eh (2:Int) V.s3 rfl ay (by(simp only[List.length_cons,List.length_nil];omega)) omg omg) ?_
          refine nE (fun y FF hA=>aO (Post:=[]) (kQ h.w h.h h.ak h.aV h.dep ((aa.bu (aa.aM h row x) N).getD ((2:Int).toNat) 0) hd (hr 2 omg)) V.nc rfl .nil (fun v G h=>by rcases h with⟨rfl,rfl⟩;exact⟨rfl,.refl _⟩)) ?_
          refine(YZ) ?_
          refine nV (fun y hA L=>bZ 3 rfl V.gX rfl rfl omg) ?_
          refine nR (fun y FF hA=>eh (3:Int) V.s3 rfl ay (by(simp only[List.length_cons,List.length_nil];omega)) omg omg) ?_
          refine nE (fun y FF hA=>aO (Post:=[]) (kQ h.w h.h h.ak h.aV h.dep ((aa.bu (aa.aM h row x) N).getD ((3:Int).toNat) 0) hd (hr 3 omg)) V.nc rfl .nil (fun v G h=>by rcases h with⟨rfl,rfl⟩;exact⟨rfl,.refl _⟩)) ?_
          refine nV (fun y hA L=>gb V.lH V.oY rfl (cs:=[.int .u16 (aa.up h.dep ((aa.bu (aa.aM h row x) N).getD ((0:Int).toNat) 0)),.int .u16 (aa.up h.dep ((aa.bu (aa.aM h row x) N).getD ((1:Int).toNat) 0)),.int .u16 (aa.up h.dep ((aa.bu (aa.aM h row x) N).getD ((2:Int).toNat) 0)),.int .u16 (aa.up h.dep ((aa.bu (aa.aM h row x) N).getD ((3:Int).toNat) 0))]) (by kernel_rfl)) ?_
          refine(Q1X) ?_
          refine nA ?_
          refine(Qi) ?_
          intro y hA
          clear hA
          refine bJ<|(MW) ?_
          refine bA (M:=ai gk 151 [.slice pr row.length cr,I6 ((x*N*D+N*D:Nat):Int),.bool true,.bool false]::ai jW 152 (CA [] .i64 (aa.bu (aa.aM h row x) N) [])::ai b5 38 [I6 h.w,I6 h.h,I6 h.dep,I6 h.ak,.bool h.aV]::Rr::R::ai b10 68 [.int .u16 (aa.up h.dep ((aa.bu (aa.aM h row x) N).getD ((0:Int).toNat) 0)),.int .u16 (aa.up h.dep ((aa.bu (aa.aM h row x) N).getD ((1:Int).toNat) 0)),.int .u16 (aa.up h.dep ((aa.bu (aa.aM h row x) N).getD ((2:Int).toNat) 0)),.int .u16 (aa.up h.dep ((aa.bu (aa.aM h row x) N).getD ((3:Int).toNat) 0))]::F) (fun _ _ h=>h)<|(Q3) ?_
          exact af (cH V.jQ rfl wW rfl rfl) (.inr ⟨_,_,_,_,(by rw[aa.yh (f:=⟨h,pl,tr⟩) (by show¬(h.ak=0∨h.ak=4);omega) (by show¬h.ak=3;omega),hq 0 omg,hq 1 omg,hq 2 omg,aa.I5 hf (aa.aM h row x) (.inr e6),hSl,show N-1=3 by omega,hq 3 omg];rfl),rfl,rfl⟩) (sub (.cons cB (.cons cB .nil)) gF)
        ·
          refine(Q5) ?_
          have hrl4:=aa.lK (S:=(aa.aM h row x)) (i:=N) omg omg
          have hr:∀j:Nat,j<N→0≤(aa.bu (aa.aM h row x) N).getD j 0∧(aa.bu (aa.aM h row x) N).getD j 0<2^h.dep.toNat:=fun j hj=>by rw[aa.jL hN hj];exact aa.lS _ (aa.fN omg)
          have hq:∀j:Nat,j<N→((aa.aM h row x).map (aa.up h.dep)).getD j 0=aa.up h.dep ((aa.bu (aa.aM h row x) N).getD j 0):=fun j hj=>by rw[aa.oz omg,aa.jL hN hj]
          refine(Q5)<|(Qt)<|(Q6)<|(DI)<|(Q1)<|(Nr)<|(Q1) ?_
          refine oV (bC (bG rfl rfl) e4)<|(Q1) ?_
          refine oV (bC (bG rfl rfl) e6)<|(Qe) ?_
          obtain⟨k,hk0⟩:∃k:Nat,(aa.bu (aa.aM h row x) N).getD 0 0=(k:Int):=⟨((aa.bu (aa.aM h row x) N).getD 0 0).toNat,by have:=hr 0 omg;omega⟩
          have hkb:k<65536:=by have:=hr 0 omg;omega
          refine(QF) ?_
          refine oV (bZ 0 rfl V.gX rfl rfl omg)<|oV (eh (0:Int) V.s3 rfl cX (by(simp only[List.length_cons,List.length_nil];omega)) omg omg) ?_
          rw[show((aa.bu (aa.aM h row x) N).getD ((0:Int).toNat) 0)=(k:Int) from hk0]
          refine(Qc) ?_
          rcases(Classical.em (pl.length/3≤k)) with hk|hk
          ·
            refine(r3) ?_
            refine oV (bQ (rF rfl rfl) ((aa.Ae hf e3 k).2 hk))<|(Q6) ?_
            refine oV (gb V.lH V.oY rfl (cs:=[_,_,_,_]) rfl)<|(US)<|(Q6) ?_
            have hp3:aa.gB ⟨h,pl,tr⟩ (aa.aM h row x)=aa.vt pl tr k:=by rw[aa.sr (f:=⟨h,pl,tr⟩) e3,←aa.jL hN (show 0<N by omega),hk0];rfl
            exact af (cH V.jQ rfl dz rfl rfl) (.inl ⟨by rw[hp3,aa.HM hk],rfl,rfl⟩) (sub (.cons gW (.cons gW .nil)) gF)
          ·
            refine(r3) ?_
            refine oV (bC (rF rfl rfl) (fun q=>hk ((aa.Ae hf e3 k).1 q)))<|(Q1) ?_
            have hb0:0≤(U5.g pl (3*(k:Int)))∧(U5.g pl (3*(k:Int)))<256:=by rw[show(U5.g pl (3*(k:Int)))=pl.getD (3*k) 0 from gE (3*k) omg];exact hB.get _
            have hb1:0≤(U5.g pl ((3*(k:Int))+1))∧(U5.g pl ((3*(k:Int))+1))<256:=by rw[show(U5.g pl ((3*(k:Int))+1))=pl.getD (3*k+1) 0 from gE (3*k+1) omg];exact hB.get _
            have hb2:0≤(U5.g pl ((3*(k:Int))+2))∧(U5.g pl ((3*(k:Int))+2))<256:=by rw[show(U5.g pl ((3*(k:Int))+2))=pl.getD (3*k+2) 0 from gE (3*k+2) omg];exact hB.get _
            refine jE [pz 0 [] [3],pz 0 [] [19],pz 2 [1] [],pz 7 [0,2] [],pz 15 [3] [],pz 31 [4] [],pz 63 [5] [],pz 0 [] [3],pz 0 [] [19],pz 256 [8] [],pz 768 [9] [],pz 1920 [7,10] [],pz 3968 [11] [],pz 8064 [12] [],pz 16256 [13] [],pz 0 [] [3],pz 0 [] [19],pz 65536 [16] [],pz 196608 [17] [],pz 491520 [15,18] [],pz 1015808 [19] [],pz 2064384 [20] [],pz 4161536 [21] [],pz 8388607 [6,14,22] [],pz 0 [] [],pz 33554431 [24,23] []] [⟨fun y=>ai gk 151 [.slice pr row.length cr,I6 ((x*N*D+N*D:Nat):Int),.bool true,.bool false],none,none,[]⟩,⟨fun y=>ai jW 152 (CA [] .i64 (aa.bu (aa.aM h row x) N) []),none,none,[]⟩,⟨fun y=>ai b10 68 [.int .u16 0,.int .u16 0,.int .u16 0,.int .u16 0],none,none,[]⟩,⟨fun y=>ai b5 38 [I6 h.w,I6 h.h,I6 h.dep,I6 h.ak,.bool h.aV],none,none,[]⟩,⟨fun y=>Rr,none,none,[]⟩,⟨fun y=>R,none,none,[3,4,11,12,19,20]⟩,⟨fun y=>ai (eG (y 24)) 68 [.int .u16 0,.int .u16 0,.int .u16 0,.int .u16 0],some 24,some 25,[]⟩,⟨fun y=>ai (eG (y 24)) 68 [.int .u16 ((U5.g pl (3*(k:Int)))*257),.int .u16 ((U5.g pl ((3*(k:Int))+1))*257),.int .u16 ((U5.g pl ((3*(k:Int))+2))*257),.int .u16 65535],some 25,none,[]⟩] F V.mixed (by kernel_rfl) rfl (fun _=>.refl _) (aU _ (aU _ (aU _ (aU _ (aU _ (aU _ (dq _ rfl (by intro y y2 h;simp only[h 24 (.inl rfl)]) (dq _ rfl (by intro y y2 h;simp only[h 24 (.inr dec)]) fw)))))))) ?_
            iterate 2 refine nM ?_
            refine(w4)<|(VE)<|(WM) ?_
            refine nV (fun y hA L=>cS V.u5 Tryz.underlying62 rfl (aa.ml ⟨hb0.1,Int.le_trans (Int.le_of_lt hb0.2) dec⟩))<|nV (fun y hA L=>fR (r:=((U5.g pl (3*(k:Int)))*257)) rfl rfl (aa.ml ⟨omg,omg⟩)) ?_
            iterate 2 refine nM ?_
            refine(w4)<|(Qv)<|(VE)<|(WM) ?_
            refine nV (fun y hA L=>cS V.u5 Tryz.underlying62 rfl (aa.ml ⟨hb1.1,Int.le_trans (Int.le_of_lt hb1.2) dec⟩))<|nV (fun y hA L=>fR (r:=((U5.g pl ((3*(k:Int))+1))*257)) rfl rfl (aa.ml ⟨omg,omg⟩)) ?_
            iterate 2 refine nM ?_
            refine(w4)<|(Qv)<|(VE)<|(WM) ?_
            refine nV (fun y hA L=>cS V.u5 Tryz.underlying62 rfl (aa.ml ⟨hb2.1,Int.le_trans (Int.le_of_lt hb2.2) dec⟩))<|nV (fun y hA L=>fR (r:=((U5.g pl ((3*(k:Int))+2))*257)) rfl rfl (aa.ml ⟨omg,omg⟩))<|nV (fun y hA L=>gb V.lH V.oY rfl (cs:=[.int .u16 ((U5.g pl (3*(k:Int)))*257),.int .u16 ((U5.g pl ((3*(k:Int))+1))*257),.int .u16 ((U5.g pl ((3*(k:Int))+2))*257),.int .u16 65535]) (by kernel_rfl))<|fh (fun y v=>.pointer (some ⟨eG v,0,none⟩)) (fun y v=>True) _ _ (fun y v=>[ai (eG v) 68 [.int .u16 0,.int .u16 0,.int .u16 0,.int .u16 0]]) _ (fun y=>rfl) (fun y=>rfl) (fun y=>rfl) (fun y=>rfl) (fun y FF hA=>pf (qD V.oY)) (by intros;rfl) (by intros;rfl) (by intros;rfl) (by intro y y2 h;simp only[h 24 (.inl rfl)]) (by intro y y2 h;rfl)<|(Q1X)<|(Qi) ?_
            intro y hA
            clear hA
            refine bJ<|bW [(4,.slice pt tr.length ct),(10,.pointer (soz b10)),(19,I6 (k:Int)),(20,.pointer (some ⟨(eG (y 24)),0,none⟩))] (.cons (d:=4) rfl (.cons (d:=10) rfl (.cons (d:=19) rfl (.cons (d:=20) rfl (.nil _)))))<|bA (M:=ai gk 151 [.slice pr row.length cr,I6 ((x*N*D+N*D:Nat):Int),.bool true,.bool false]::ai jW 152 (CA [] .i64 (aa.bu (aa.aM h row x) N) [])::ai b10 68 [.int .u16 0,.int .u16 0,.int .u16 0,.int .u16 0]::ai b5 38 [I6 h.w,I6 h.h,I6 h.dep,I6 h.ak,.bool h.aV]::Rr::R::ai (eG (y 24)) 68 [.int .u16 ((U5.g pl (3*(k:Int)))*257),.int .u16 ((U5.g pl ((3*(k:Int))+1))*257),.int .u16 ((U5.g pl ((3*(k:Int))+2))*257),.int .u16 65535]::F) (fun _ _ h=>h) ?_
            generalize(eG (y 24))=nU
            refine gv (fun(al:Int)=>[(10,.pointer (soz b10)),(20,.pointer (soz nU))]) (fun(al:Int)=>ai nU 68 (CA [] .u16 [((U5.g pl (3*(k:Int)))*257),((U5.g pl ((3*(k:Int))+1))*257),((U5.g pl ((3*(k:Int))+2))*257),al] [])::ai b10 68 [.int .u16 0,.int .u16 0,.int .u16 0,.int .u16 0]::ai b5 38 [I6 h.w,I6 h.h,I6 h.dep,I6 h.ak,.bool h.aV]::Rr::R::F) (fun(al:Int)=>al=if k<tr.length then tr.getD k 0*257 else 65535) ?_ ?_
            ·
              rcases(Classical.em (k<tr.length)) with hkt|hkt
              ·
                refine rL TT 1 rfl ?_
                rw[show ai nU 68 [.int .u16 ((U5.g pl (3*(k:Int)))*257),.int .u16 ((U5.g pl ((3*(k:Int))+1))*257),.int .u16 ((U5.g pl ((3*(k:Int))+2))*257),.int .u16 65535]=ai nU 68 (CA [] .u16 [((U5.g pl (3*(k:Int)))*257),((U5.g pl ((3*(k:Int))+1))*257),((U5.g pl ((3*(k:Int))+2))*257),65535] []) from rfl]
                refine(Q4)<|(QG)<|(Qc) ?_
                have hbt:0≤U5.g tr (k:Int)∧U5.g tr (k:Int)<256:=hBt.get k
                refine(Q3) ?_
                refine oV (xI V.bT (by exact bK hT wW)) ?_
                refine oV (xL V.s5 (by exact bK hT wW)) ?_
                refine oV (cS V.u5 Tryz.underlying62 rfl (aa.ml ⟨(hBt.get k).1,Int.le_trans (Int.le_of_lt (hBt.get k).2) dec⟩)) ?_
                refine oV (fR (r:=U5.g tr (k:Int)*257) rfl rfl (aa.ml ⟨omg,omg⟩)) ?_
                refine oV (bZ 3 rfl V.lH rfl rfl omg) ?_
                refine cC (om (3:Int) V.nH rfl rfl (by exact Ss) (by(simp only[List.length_cons,List.length_nil];omega)) omg (by(simp only[List.length_set,List.length_cons,List.length_nil];omega))) ?_
                refine ga ?_
                (exact j1 (U5.g tr (k:Int)*257) (by rw[if_pos hkt];rfl) (fF ln) (sub (.cons nQ (.cons aL (.cons aL (.cons aL (.cons aL .nil))))) dC))
              ·
                refine rL TT 1 rfl ?_
                rw[show ai nU 68 [.int .u16 ((U5.g pl (3*(k:Int)))*257),.int .u16 ((U5.g pl ((3*(k:Int))+1))*257),.int .u16 ((U5.g pl ((3*(k:Int))+2))*257),.int .u16 65535]=ai nU 68 (CA [] .u16 [((U5.g pl (3*(k:Int)))*257),((U5.g pl ((3*(k:Int))+1))*257),((U5.g pl ((3*(k:Int))+2))*257),65535] []) from rfl]
                refine(Q4)<|(QL)<|(Q7) ?_
                (exact j1 65535 (if_neg hkt).symm (fF ln) (sub (.cons nQ (.cons aL (.cons aL (.cons aL (.cons aL .nil))))) dC))
            ·
              intro al
              rintro hal
              refine(Q5) ?_
              refine oV (cn (v:=.agg #[.int .u16 ((U5.g pl (3*(k:Int)))*257),.int .u16 ((U5.g pl ((3*(k:Int))+1))*257),.int .u16 ((U5.g pl ((3*(k:Int))+2))*257),.int .u16 al]) (zB V.jQ rfl ay rfl rfl) rfl)<|cC (aZ V.jQ rfl rfl (us:=[_,_,_,_]) rfl rfl (by exact qn) (by exact Nat.le_of_ble_eq_true rfl) rfl)<|(Q7) ?_
              have hp3:aa.gB ⟨h,pl,tr⟩ (aa.aM h row x)=aa.vt pl tr k:=by rw[aa.sr (f:=⟨h,pl,tr⟩) e3,←aa.jL hN (show 0<N by omega),hk0];rfl
              exact af (cH V.jQ rfl cX rfl rfl) (.inr ⟨_,_,_,_,(by rw[hp3,aa.AY hk,←hal,aa.ea,aa.ea,aa.ea,show U5.g pl (3*(k:Int))=pl.getD (3*k) 0 from gE (3*k) omg,show U5.g pl ((3*(k:Int))+1)=pl.getD (3*k+1) 0 from gE (3*k+1) omg,show U5.g pl ((3*(k:Int))+2)=pl.getD (3*k+2) 0 from gE (3*k+2) omg];rfl),rfl,rfl⟩) (sub (.cons cB (.cons cB .nil)) iW)
end Go.Proofs.YtmaiakpjgomnpaaGreat

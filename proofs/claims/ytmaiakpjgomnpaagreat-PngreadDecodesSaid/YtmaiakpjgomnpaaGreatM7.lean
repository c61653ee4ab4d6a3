/- Walks of functions that the law reaches, and what they lean on; no conditions. -/
import Derived.Test.YtmaiakpjgomnpaaGreatM6
import Derived.Shelf.Sort.Plain
set_option linter.defProp false
set_option maxHeartbeats 16000000
set_option maxRecDepth 100000
set_option linter.unusedVariables false
set_option linter.unusedSimpArgs false
set_option maxRecDepth 100000
namespace Go.Proofs.YtmaiakpjgomnpaaGreat
open Go.Sl 
attribute [local irreducible] ae.bp ae.tk ae.ord ae.bV ae.words ae.cU ab.gG ab.bX ab.cu ab.dG ab.hL ab.hD ab.hC ab.fg ab.told ab.dO ab.jH ab.rep ab.eL ab.dQ ab.sym ab.cT ag.aG ab.eW ab.dk ab.one ab.eK

def KX(b bl:Nat)(sz mo:Int)(B:List Int)(s:ab.St)(n:Int)(hok:ab.Ok B mo s)(hm:mo<1000000000)(hx:n<1∨s.ended=true):aA Tryz.prog 147 [.pointer (soz b),I6 n] [MM b bl sz mo B s] (aF fun v G=>v=.bool s.ended∧G=[MM b bl sz mo B s]):=by
 refine(M1) ?_
 intro w0 F
 have hro:=hok.room
 refine(yJ) ?_
 rintro⟨li,di⟩ _
 dsimp only
 simp only[List.cons_append,List.nil_append]
 refine(vX) ?_
 rintro⟨po,co⟩ _
 dsimp only
 simp only[List.cons_append,List.nil_append]
 refine(QK)<|(wv) ?_
 intro b2
 refine(wv) ?_
 intro b3
 refine(Q1)<|(lT)<|(CR)<|(ux)<|(lT)<|(Qm)<|(M0)<|(Q0)<|(Jl)<|(Q1) ?_
 rcases(Classical.em (n<1)) with h1|h1
 ·refine(wT) ?_
  refine oV (bQ (dD rfl rfl) h1)<|(Qj)<|(lT)<|(Q9)<|(GC)<|(Q6) ?_
  exact af (aw rfl) ⟨rfl,rfl⟩ (Sl.Sub.trans ((aS (.cons aL (.cons aL .nil)) .refl (fun w0 h hh=>dL (s:=s) rfl hh)).trans (aS (an (.cons aL (.cons aL .nil))) .refl (fun w0 h hh=>gm (s:=s) hh))) (sub (an .nil) dC))
 ·refine(wT) ?_
  refine oV (bC (dD rfl rfl) h1)<|(ux)<|(lT)<|(Qm) ?_
  refine oV (cn (v:=.bool true) (aB V.s4 rfl dz rfl) (by rw[hx.resolve_left h1]))<|(Q1)<|(lT)<|(Q9)<|(GC)<|(Q6) ?_
  exact af (aw rfl) ⟨rfl,rfl⟩ (Sl.Sub.trans ((aS (.cons aL (.cons aL .nil)) .refl (fun w0 h hh=>dL (s:=s) rfl hh)).trans (aS (an (.cons aL (.cons aL .nil))) .refl (fun w0 h hh=>gm (s:=s) hh))) (sub (an .nil) dC))

def K7(b bl:Nat)(sz mo:Int)(B:List Int)(s:ab.St)(n:Int)(hl:B.length<500000000)(hB:ag.aq B)(hn:1≤n)(hok:ab.Ok B mo s)(hm:mo<1000000000)(he:s.ended=false)(s2:ab.St)(hlp:ab.Lp B mo s.out.length n s (.ok s2)):aA Tryz.prog 147 [.pointer (soz b),I6 n] [MM b bl sz mo B s] (aF fun v G=>v=.bool s2.ended∧G=[MM b bl sz mo B s2]):=by
 refine(M1) ?_
 intro w0 F
 have hro:=hok.room
 refine(yJ) ?_
 rintro⟨li,di⟩ _
 dsimp only
 simp only[List.cons_append,List.nil_append]
 refine(vX) ?_
 rintro⟨po,co⟩ _
 dsimp only
 simp only[List.cons_append,List.nil_append]
 refine(QK)<|(wv) ?_
 intro b2
 refine(wv) ?_
 intro b3
 refine(Q1)<|(lT)<|(CR)<|(ux)<|(lT)<|(Qm)<|(M0)<|(Q0)<|(Jl)<|(Qn)<|(Ql)<|(QL)<|(ux)<|(lT)<|(Q8R)<|(Qe)<|(lT)<|(Q9) ?_
 refine oV (aB V.kO rfl dz rfl) ?_
 refine(m7) ?_
 refine de V.z3 rfl ?_
 intro b5
 refine(m9)<|(Qc)<|(Q7k)<|(QF) ?_
 refine oV (Fw (fs:=[]) (cs:=[_,_,_]) rfl rfl)<|oC (LB (f:=168) (cs:=[.pointer (soz b2),.pointer (soz b5),.pointer (soz b3)]) (R:=fun G=>G=[ai b2 204 [.pointer (soz b)],ai b5 3 [I6 (s.out.length:Int)],ai b3 3 [I6 n],MM b bl sz mo B s2]) (aA.fgt ((DC b2 b5 b3 b bl sz mo s.out.length n s (.ok s2) B hl hB hm omg hok hlp).ok rfl)) V.UT) V.Sv rfl (.cons cB (.cons ar (.cons ar (an .nil)))) rfl<|(Qd)<|(sd)<|(Q1) ?_
 refine nD cB (fun h hh=>xM hh) ?_
 rintro⟨li2,di2⟩ _
 dsimp only
 simp only[List.cons_append,List.nil_append]
 refine(vX) ?_
 rintro⟨po2,co2⟩ _
 dsimp only
 simp only[List.cons_append,List.nil_append]
 refine(QF) ?_
 refine oV (aB V.vd rfl ic rfl) ?_
 refine(Q9) ?_
 refine(nP) ?_
 refine(Q7) ?_
 exact af (aw rfl) ⟨rfl,rfl⟩ (Sl.Sub.trans ((aS (aJ .nil) .refl (fun w0 h hh=>dL (s:=s2) rfl hh)).trans (aS (dV .nil) .refl (fun w0 h hh=>gm (s:=s2) hh))) (sub (an .nil) iW))
def P7{b bl:Nat}{sz mo:Int}{w0:World}{h:Hp}(hh:MX b bl sz mo w0 h):∃i:Vx,True∧cY w0 [ai b 223 [.pointer (soz bl),I6 sz,I6 mo,i.v3,i.v4,i.v5,i.v6,i.v7,i.v8,i.v9,i.v10,i.v11,i.v12]] h:=hh
def Ev{b bl:Nat}{sz mo e:Int}{w0:World}{h:Hp}(hh:MD b bl sz mo e w0 h):∃i:Vx,True∧cY w0 [ai b 223 [.pointer (soz bl),I6 sz,I6 mo,.slice none 0 0,.bool true,I6 e,i.v6,i.v7,i.v8,i.v9,i.v10,i.v11,i.v12]] h:=hh

def Kg(b bl:Nat)(sz mo:Int)(B:List Int)(s:ab.St)(n:Int)(hl:B.length<500000000)(hB:ag.aq B)(hn:1≤n)(hok:ab.Ok B mo s)(hm:mo<1000000000)(he:s.ended=false)(e:Int)(hE:e≠0)(hlp:ab.Lp B mo s.out.length n s (.error e)):aA Tryz.prog 147 [.pointer (soz b),I6 n] [MM b bl sz mo B s] (aF fun v G=>v=.bool true∧G=[MD b bl sz mo e]):=by
 refine(M1) ?_
 intro w0 F
 have hro:=hok.room
 refine(yJ) ?_
 rintro⟨li,di⟩ _
 dsimp only
 simp only[List.cons_append,List.nil_append]
 refine(vX) ?_
 rintro⟨po,co⟩ _
 dsimp only
 simp only[List.cons_append,List.nil_append]
 refine(QK)<|(wv) ?_
 intro b2
 refine(wv) ?_
 intro b3
 refine(Q1)<|(lT)<|(CR)<|(ux)<|(lT)<|(Qm)<|(M0)<|(Q0)<|(Jl)<|(Qn)<|(Ql)<|(QL)<|(ux)<|(lT)<|(Q8R)<|(Qe)<|(lT)<|(Q9) ?_
 refine oV (aB V.kO rfl dz rfl) ?_
 refine(m7) ?_
 refine de V.z3 rfl ?_
 intro b5
 refine(m9)<|(Qc)<|(Q7k)<|(QF) ?_
 refine oV (Fw (fs:=[]) (cs:=[_,_,_]) rfl rfl)<|oC (Kh (f:=168) (cs:=[.pointer (soz b2),.pointer (soz b5),.pointer (soz b3)]) (R:=fun G=>G=[ai b2 204 [.pointer (soz b)],ai b5 3 [I6 (s.out.length:Int)],ai b3 3 [I6 n],MX b bl sz mo]) ((DC b2 b5 b3 b bl sz mo s.out.length n s (.error e) B hl hB hm omg hok hlp).err rfl) V.UT) V.Sv rfl (.cons cB (.cons ar (.cons ar (an .nil)))) rfl<|(Qd) ?_
 refine oV (bQ (bO rfl rfl) hE)<|(Qc) ?_
 refine nD cB (fun h hh=>P7 hh) ?_
 rintro⟨v3,v4,v5,v6,v7,v8,v9,v10,v11,v12⟩ _
 dsimp only
 simp only[List.cons_append,List.nil_append]
 refine wN [pz 0 [] [2],pz 0 [] [2],pz 0 [] [2],pz 0 [] [6],pz 1 [0] [],pz 17 [4] [],pz 49 [5] [],pz 123 [1] [],pz 251 [7] [],pz 507 [8,3] [],pz 1023 [2] [],pz 2047 [10] [],pz 4095 [11] []] [⟨fun y=>ai b 223 [.pointer (soz bl),I6 sz,I6 mo,v3,v4,v5,v6,v7,v8,v9,v10,v11,v12],none,some 6,[]⟩,⟨fun y=>ai b2 204 [.pointer (soz b)],none,none,[0,1,2]⟩,⟨fun y=>ai b5 3 [I6 (s.out.length:Int)],none,none,[]⟩,⟨fun y=>ai b3 3 [I6 n],none,none,[]⟩,⟨fun y=>ai b 223 [.pointer (soz bl),I6 sz,I6 mo,v3,.bool true,v5,v6,v7,v8,v9,v10,v11,v12],some 6,some 9,[]⟩,⟨fun y=>ai b 223 [.pointer (soz bl),I6 sz,I6 mo,v3,.bool true,I6 e,v6,v7,v8,v9,v10,v11,v12],some 9,some 12,[]⟩,⟨fun y=>ai b 223 [.pointer (soz bl),I6 sz,I6 mo,.slice none 0 0,.bool true,I6 e,v6,v7,v8,v9,v10,v11,v12],some 12,none,[]⟩] F V.mixed ?_
 iterate 3 refine nR (fun y FF hA=>aB V.vd rfl ay rfl) ?_
 refine nM ?_
 refine nN ?_
 refine nG V.BY ?_
 refine nE (fun y FF hA=>dm (ew V.s4 rfl rfl rfl (by exact ft) (by exact Nat.le_of_ble_eq_true rfl) rfl) ⟨rfl,.refl _⟩) ?_
 refine nN ?_
 refine nG V.RW ?_
 refine nE (fun y FF hA=>dm (ew V.Hj rfl rfl rfl (by exact ft) (by exact Nat.le_of_ble_eq_true rfl) rfl) ⟨rfl,.refl _⟩) ?_
 refine nN ?_
 refine nG V.kK ?_
 refine nE (fun y FF hA=>dm (ew V.kO rfl rfl rfl (by exact ft) (by exact Nat.le_of_ble_eq_true rfl) rfl) ⟨rfl,.refl _⟩) ?_
 refine(Qi) ?_
 intro y hA
 clear hA
 refine bJ<|(Hx) ?_
 refine bA (M:=ai b2 204 [.pointer (soz b)]::ai b5 3 [I6 (s.out.length:Int)]::ai b3 3 [I6 n]::ai b 223 [.pointer (soz bl),I6 sz,I6 mo,.slice none 0 0,.bool true,I6 e,v6,v7,v8,v9,v10,v11,v12]::F) (fun _ _ h=>h)<|(Q5) ?_
 refine oV (aB V.vd rfl ay rfl)<|(Q9) ?_
 refine oV (aB V.s4 rfl fX rfl)<|(Q7) ?_
 exact af (aw rfl) ⟨rfl,rfl⟩ (aS (.cons cB .nil) iW (fun w0 h hh=>kC hh))

def KD(b bl:Nat)(sz mo:Int)(e:Int)(n:Int):aA Tryz.prog 147 [.pointer (soz b),I6 n] [MD b bl sz mo e] (aF fun v G=>v=.bool true∧G=[MD b bl sz mo e]):=by
 refine(M1) ?_
 intro w0 F
 refine(MU) ?_
 rintro⟨v3,v4,v5,v6,v7,v8,v9,v10,v11,v12⟩ _
 dsimp only
 simp only[List.cons_append,List.nil_append]
 refine(QK)<|(wv) ?_
 intro b2
 refine(wv) ?_
 intro b3
 refine(Q1)<|(lT)<|(CR)<|(ux)<|(lT)<|(Qm)<|(M0)<|(Q0)<|(Jl)<|(Q1) ?_
 rcases(Classical.em (n<1)) with h1|h1
 ·refine(wT) ?_
  refine oV (bQ (dD rfl rfl) h1)<|(Qj)<|(lT)<|(Q9)<|(GC)<|(Q6) ?_
  exact af (aw rfl) ⟨rfl,rfl⟩ (aS (.cons aL .nil) dC (fun w0 h hh=>kC hh))
 ·refine(wT) ?_
  refine oV (bC (dD rfl rfl) h1)<|(ux)<|(lT)<|(Qm)<|(GC)<|(Q1)<|(lT)<|(Q9)<|(GC)<|(Q6) ?_
  exact af (aw rfl) ⟨rfl,rfl⟩ (aS (.cons aL .nil) dC (fun w0 h hh=>kC hh))
def z6(b bl:Nat)(sz mo:Int)(B:List Int)(s:ab.St):aA Tryz.prog 146 [.pointer (soz b)] [MM b bl sz mo B s] (aF fun v G=>v=.bool s.ended∧G=[MM b bl sz mo B s]):=by
 refine ao [(0,_)] Tryz.func146 rfl Tryz.ntmps146 rfl rfl ?_
 intro w0 F
 refine(yJ) ?_
 rintro⟨li,di⟩ _
 dsimp only
 simp only[List.cons_append,List.nil_append]
 refine(vX) ?_
 rintro⟨po,co⟩ _
 dsimp only
 simp only[List.cons_append,List.nil_append]
 refine(Y1)<|(Qu)<|(nP)<|(Q6) ?_
 exact af (aw rfl) ⟨rfl,rfl⟩ (Sl.Sub.trans ((aS (aJ .nil) .refl (fun w0 h hh=>dL (s:=s) rfl hh)).trans (aS (dV .nil) .refl (fun w0 h hh=>gm (s:=s) hh))) (sub (an .nil) aj))
def ud(b bl:Nat)(sz mo:Int)(e:Int):aA Tryz.prog 146 [.pointer (soz b)] [MD b bl sz mo e] (aF fun v G=>v=.bool true∧G=[MD b bl sz mo e]):=by
 refine ao [(0,_)] Tryz.func146 rfl Tryz.ntmps146 rfl rfl ?_
 intro w0 F
 refine(MU) ?_
 rintro⟨v3,v4,v5,v6,v7,v8,v9,v10,v11,v12⟩ _
 dsimp only
 simp only[List.cons_append,List.nil_append]
 refine(Y1)<|(Qu)<|(nP)<|(Q6) ?_
 exact af (aw rfl) ⟨rfl,rfl⟩ (aS (an .nil) aj (fun w0 h hh=>kC hh))
def YJ(b bl:Nat)(sz mo:Int)(B:List Int)(s:ab.St):aA Tryz.prog 150 [.pointer (soz b)] [MM b bl sz mo B s] (aF fun v G=>v=I6 0∧G=[MM b bl sz mo B s]):=by
 refine ao [(0,_)] Tryz.func150 rfl Tryz.ntmps150 rfl rfl ?_
 intro w0 F
 refine(yJ) ?_
 rintro⟨li,di⟩ _
 dsimp only
 simp only[List.cons_append,List.nil_append]
 refine(vX) ?_
 rintro⟨po,co⟩ _
 dsimp only
 simp only[List.cons_append,List.nil_append]
 refine(mz)<|(CR)<|(Qg)<|(NZ)<|(Q7) ?_
 exact af (aw rfl) ⟨rfl,rfl⟩ (Sl.Sub.trans ((aS (aJ .nil) .refl (fun w0 h hh=>dL (s:=s) rfl hh)).trans (aS (dV .nil) .refl (fun w0 h hh=>gm (s:=s) hh))) (sub (an .nil) aj))
def GF(b bl:Nat)(sz mo:Int)(e:Int):aA Tryz.prog 150 [.pointer (soz b)] [MD b bl sz mo e] (aF fun v G=>v=I6 e∧G=[MD b bl sz mo e]):=by
 refine ao [(0,_)] Tryz.func150 rfl Tryz.ntmps150 rfl rfl ?_
 intro w0 F
 refine(MU) ?_
 rintro⟨v3,v4,v5,v6,v7,v8,v9,v10,v11,v12⟩ _
 dsimp only
 simp only[List.cons_append,List.nil_append]
 refine(mz)<|(CR)<|(Qg)<|(NZ)<|(Q7) ?_
 exact af (aw rfl) ⟨rfl,rfl⟩ (aS (an .nil) aj (fun w0 h hh=>kC hh))
def OB(b bl:Nat)(sz mo:Int)(B:List Int)(s:ab.St)(he:s.ended=false):aA Tryz.prog 148 [.pointer (soz b)] [MM b bl sz mo B s] (aF fun v G=>v=.slice none 0 0∧G=[MM b bl sz mo B s]):=by
 refine(Xa) ?_
 intro w0 F
 refine(mz)<|(Wg) ?_
 rw[he]
 refine(Qj) ?_
 exact af (aw rfl) ⟨rfl,rfl⟩ (sub (an .nil) aj)

def Lz(b bl:Nat)(sz mo:Int)(B:List Int)(s:ab.St)(hok:ab.Ok B mo s)(hm:mo<500000000)(he:s.ended=true):aA Tryz.prog 148 [.pointer (soz b)] [MM b bl sz mo B s] (aF fun v G=>∃q c,v=.slice q s.out.length c∧G=[Row U5 q s.out.length c s.out,MM b bl sz mo B s]):=by
 refine(Xa) ?_
 intro w0 F
 refine(mz)<|(Wg) ?_
 rw[he]
 refine(Qd) ?_
 have hro:=hok.room
 refine(yJ) ?_
 rintro⟨li,di⟩ _
 dsimp only
 simp only[List.cons_append,List.nil_append]
 refine(vX) ?_
 rintro⟨po,co⟩ _
 dsimp only
 simp only[List.cons_append,List.nil_append]
 refine(Q4)<|(zo) ?_
 refine aQ (pX po co s.out (Row U5 po s.out.length co s.out) (fun _ _ hh=>hh.rd) omg) V.EH rfl (.cons ar .nil) rfl ?_
 rintro _ _ ⟨q10,c10,rfl,rfl⟩
 refine(Q7) ?_
 exact af (aw rfl) ⟨q10,c10,rfl,rfl⟩ (Sl.Sub.trans ((aS (.cons aL (.cons ar .nil)) .refl (fun w0 h hh=>dL (s:=s) rfl hh)).trans (aS (an (.cons ar (.cons ar .nil))) .refl (fun w0 h hh=>gm (s:=s) hh))) (sub (.cons ar (an .nil)) aj))

def CI(b bl:Nat)(sz mo:Int)(e:Int):aA Tryz.prog 148 [.pointer (soz b)] [MD b bl sz mo e] (aF fun v G=>∃q c,v=.slice q 0 c∧G=[Row U5 q 0 c [],MD b bl sz mo e]):=by
 refine(Xa) ?_
 intro w0 F
 refine(mz) ?_
 refine oC (ud b bl sz mo e) V.xP rfl (an .nil) rfl<|(Qd)<|(MU) ?_
 rintro⟨v3,v4,v5,v6,v7,v8,v9,v10,v11,v12⟩ _
 dsimp only
 simp only[List.cons_append,List.nil_append]
 refine(wc)<|(Q4)<|(yX) ?_
 refine aQ (pX none 0 [] (Row U5 none 0 0 []) (fun _ _ hh=>hh.rd) dec) V.EH rfl (an .nil) rfl ?_
 rintro _ _ ⟨q10,c10,rfl,rfl⟩
 refine(Q7) ?_
 exact af (aw rfl) ⟨q10,c10,rfl,rfl⟩ (Sl.Sub.trans (aS (.cons aL .nil) .refl (fun w0 h hh=>kC hh)) (sub (.cons ar (an .nil)) bg))
def Lh(b bl:Nat)(sz mo:Int)(B:List Int)(s:ab.St)(he:s.ended=false):aA Tryz.prog 149 [.pointer (soz b)] [MM b bl sz mo B s] (aF fun v G=>v=I6 0∧G=[MM b bl sz mo B s]):=by
 refine(T6) ?_
 intro w0 F
 refine(mz)<|(Wg) ?_
 rw[he]
 refine(qK) ?_
 exact af (aw rfl) ⟨rfl,rfl⟩ (sub (an .nil) aj)
def ED(b bl:Nat)(sz mo:Int)(e:Int)(hE:e≠0):aA Tryz.prog 149 [.pointer (soz b)] [MD b bl sz mo e] (aF fun v G=>v=I6 0∧G=[MD b bl sz mo e]):=by
 refine(T6) ?_
 intro w0 F
 refine(mz) ?_
 refine oC (ud b bl sz mo e) V.xP rfl (an .nil) rfl<|G4 dJ (fun h hh=>Ev hh) ?_
 rintro⟨v3,v4,v5,v6,v7,v8,v9,v10,v11,v12⟩ _
 dsimp only
 simp only[List.cons_append,List.nil_append]
 refine(Q6) ?_
 refine(Q0) ?_
 refine(NZ) ?_
 refine(Q0) ?_
 refine oV (bQ (bO rfl rfl) hE) ?_
 refine(Qj) ?_
 exact af (aw rfl) ⟨rfl,rfl⟩ (aS (an .nil) aj (fun w0 h hh=>kC hh))

def Iv(b bl:Nat)(mo:Int)(B:List Int)(s:ab.St)(hl:B.length<500000000)(hok:ab.Ok B mo s)(hm:mo<1000000000)(he:s.ended=true):aA Tryz.prog 149 [.pointer (soz b)] [MM b bl (B.length:Int) mo B s] (aF fun v G=>v=I6 (((s.at_+7)/8:Nat):Int)∧G=[MM b bl (B.length:Int) mo B s]):=by
 refine(T6) ?_
 intro w0 F
 refine(mz) ?_
 refine oC (z6 b bl (B.length:Int) mo B s) V.xP rfl (an .nil) rfl ?_
 rw[he]
 refine G4 dJ (fun h hh=>xM hh) ?_
 rintro⟨li,di⟩ _
 dsimp only
 simp only[List.cons_append,List.nil_append]
 refine Oo (fun h hh=>tM hh) ?_
 rintro⟨po,co⟩ _
 dsimp only
 simp only[List.cons_append,List.nil_append]
 have hat:=hok.at_
 refine(Q6) ?_
 refine(Q0) ?_
 refine(NZ) ?_
 refine(Q0) ?_
 refine(sd) ?_
 refine(Qd) ?_
 refine wN [pz 0 [] [0],pz 1 [0] [],pz 3 [1] [],pz 7 [2] [],pz 0 [] [0],pz 16 [4] [],pz 48 [5] [],pz 112 [6] [],pz 240 [7] [],pz 496 [8] [],pz 1023 [3,9] [],pz 2047 [10] []] [⟨fun y=>ai b 223 [.pointer (soz bl),I6 (B.length:Int),I6 mo,.slice po s.out.length co,.bool s.ended,I6 0,I6 s.kind,I6 (s.left:Int),.bool s.last,li,di,I6 (s.ax:Int),I6 (s.cm:Int)],none,none,[3,7]⟩,⟨fun y=>Row U5 po s.out.length co s.out,none,none,[]⟩,⟨fun y=>LW bl B s.at_ [] 0,none,some 8,[]⟩,⟨fun y=>CD li di s,none,none,[]⟩,⟨fun y=>LW bl B s.at_ [] 0,some 8,none,[]⟩] F V.mixed ?_
 refine nM ?_
 refine nN ?_
 refine nG V.Ul ?_
 refine(Qz) ?_
 refine nM ?_
 refine nN ?_
 refine(pG) ?_
 refine(pC) ?_
 refine nE (fun y FF hA=>aO (Post:=[LW bl B s.at_ [] 0]) (V9 bl B s.at_ [] 0 hl hok.at_) V.abN rfl (an .nil) (fun v G h=>by rcases h with⟨rfl,rfl⟩;exact⟨rfl,.refl _⟩)) ?_
 refine(yC) ?_
 refine(vW) ?_
 refine nA ?_
 refine(Qi) ?_
 intro y hA
 clear hA
 refine bJ<|(Hx) ?_
 refine bA (M:=ai b 223 [.pointer (soz bl),I6 (B.length:Int),I6 mo,.slice po s.out.length co,.bool s.ended,I6 0,I6 s.kind,I6 (s.left:Int),.bool s.last,li,di,I6 (s.ax:Int),I6 (s.cm:Int)]::Row U5 po s.out.length co s.out::CD li di s::LW bl B s.at_ [] 0::F) (fun _ _ h=>h)<|(Qa) ?_
 rw[show(B.length:Int)-(8*(B.length:Int)-(s.at_:Int))/8=(((s.at_+7)/8:Nat):Int) from by omega]
 exact af (aw rfl) ⟨rfl,rfl⟩ (Sl.Sub.trans ((aS (aJ .nil) .refl (fun w0 h hh=>dL (s:=s) rfl hh)).trans (aS (an (.cons ar (.cons dJ .nil))) .refl (fun w0 h hh=>gm (s:=s) hh))) (sub (an .nil) aj))
end Go.Proofs.YtmaiakpjgomnpaaGreat
namespace Go.Proofs.YtmaiakpjgomnpaaGreat
open Go.Sl 
attribute [local irreducible] ae.bp ae.tk ae.ord ae.bV ae.words ae.cU ab.gG ab.bX ab.cu ab.dG ab.hL ab.hD ab.hC ab.fg ab.told ab.dO ab.jH ab.rep ab.eL ab.dQ ab.sym ab.cT ag.aG ab.eW ab.dk ab.one ab.eK

def YB(p:Option Addr)(cap:Nat)(B:List Int)(R:ad)(hR:∀w0 h,R w0 h→aE U5 p B.length B w0 h)(hl:B.length<500000000)(mo:Int)(hm:0≤mo):aA Tryz.prog 145 [.slice p B.length cap,I6 mo] [R] (aF fun v G=>∃b bl,v=.pointer (soz b)∧G=[MM b bl (B.length:Int) mo B ab.start,R]):=by
 refine ao [(0,_),(1,_)] Tryz.func145 rfl Tryz.ntmps145 rfl rfl ?_
 intro w0 F
 refine(Q93) ?_
 rintro _ _ ⟨bl7,rfl,rfl⟩
 refine(Qc)<|(ZB) ?_
 intro b12
 refine(Qd) ?_
 refine(QL) ?_
 refine(Q1) ?_
 refine(wc) ?_
 refine(Qf) ?_
 exact af (aw rfl) ⟨b12,bl7,rfl,rfl⟩ (Sl.Sub.trans (Sl.Sub.trans (aS (.cons ar (an .nil)) .refl (fun w0 h hh=>dL (s:=ab.start) (li:=.pointer none) (di:=.pointer none) rfl hh)) (aS (aJ .nil) .refl (fun w0 h hh=>o9 (s:=ab.start) dec hh))) (sub (aJ .nil) aj))

def O5(p:Option Addr)(cap:Nat)(B:List Int)(R:ad)(hR:∀w0 h,R w0 h→aE U5 p B.length B w0 h)(hl:B.length<500000000)(mo:Int)(hm:mo<0):aA Tryz.prog 145 [.slice p B.length cap,I6 mo] [R] (aF fun v G=>∃b bl,v=.pointer (soz b)∧G=[MD b bl (B.length:Int) mo 1,R]):=by
 refine ao [(0,_),(1,_)] Tryz.func145 rfl Tryz.ntmps145 rfl rfl ?_
 intro w0 F
 refine(Q93) ?_
 rintro _ _ ⟨bl7,rfl,rfl⟩
 refine(Qc)<|(ZB) ?_
 intro b12
 refine(Qd)<|(QG)<|(Qe)<|(Cd)<|(Q9) ?_
 refine cC (ew V.Hj rfl rfl rfl (by exact ft) (by exact Nat.le_of_ble_eq_true rfl) rfl)<|(Qn) ?_
 exact af (aw rfl) ⟨b12,bl7,rfl,rfl⟩ (Sl.Sub.trans (aS (an .nil) .refl (fun w0 h hh=>kC hh)) (sub (an (.cons ar .nil)) bg))
def aA.YR{P:Program}{f:FuncId}{args:List Value}{Pre Gs:List ad}{v0:Value}{A:ad}(h:aA P f args Pre (aF fun v G=>v=v0∧G=Gs))(hA:∀w0,A w0 (fun _=>none)):aA P f args Pre (aF fun v G=>v=v0∧G=A::Gs):=fun w0 F w hi=>(h w0 F w hi).mono fun e w' ⟨G,h1,v,h2,h3,h4⟩=>by
 subst h2;subst h3;subst h4
 exact⟨A::G,h1.yd (hA w0),_,rfl,rfl,rfl⟩
section
variable (b bl:Nat) (mo:Int) (B:List Int) (r:ab.Jt)
def OO(sz:Int):aA Tryz.prog 146 [.pointer (soz b)] [MJ b bl sz mo B r] (aF fun v G=>v=.bool (ab.k9 r)∧G=[MJ b bl sz mo B r]):=by
 cases r with
 |ok s=>exact z6 b bl sz mo B s
 |error e=>exact ud b bl sz mo e
def U0(sz:Int):aA Tryz.prog 150 [.pointer (soz b)] [MJ b bl sz mo B r] (aF fun v G=>v=I6 (ab.FT r)∧G=[MJ b bl sz mo B r]):=by
 cases r with
 |ok s=>exact YJ b bl sz mo B s
 |error e=>exact GF b bl sz mo e
def OS(hl:B.length<500000000)(hm:mo<500000000)(hok:ab.yW B mo r):aA Tryz.prog 149 [.pointer (soz b)] [MJ b bl (B.length:Int) mo B r] (aF fun v G=>v=I6 (ab.ur r)∧G=[MJ b bl (B.length:Int) mo B r]):=by
 cases r with
 |ok s=>
  cases he:s.ended with
  |true=>rw[show ab.ur (.ok s)=(((s.at_+7)/8:Nat):Int) from if_pos he];exact Iv b bl mo B s hl hok omg he
  |false=>rw[show ab.ur (.ok s)=0 from if_neg (by rw[he];decide)];exact Lh b bl (B.length:Int) mo B s he
 |error e=>exact ED b bl (B.length:Int) mo e hok
def Vp(sz:Int)(hm:mo<500000000)(hok:ab.yW B mo r):aA Tryz.prog 148 [.pointer (soz b)] [MJ b bl sz mo B r] (aF fun v G=>∃q c,v=.slice q (ab.sK r).length c∧G=[Row U5 q (ab.sK r).length c (ab.sK r),MJ b bl sz mo B r]):=by
 cases r with
 |ok s=>
  cases he:s.ended with
  |true=>rw[show ab.sK (.ok s)=s.out from if_pos he];exact Lz b bl sz mo B s hok hm he
  |false=>rw[show ab.sK (.ok s)=[] from if_neg (by rw[he];decide)];exact(aA.YR (OB b bl sz mo B s he) (A:=Row U5 none 0 0 []) (fun w0=>Row.nil U5 w0 _)).mono fun e G ⟨v,h1,h2,h3⟩=>⟨v,h1,none,0,h2,h3⟩
 |error e=>exact CI b bl sz mo e
def Pe(sz n:Int)(r':ab.Jt)(hl:B.length<500000000)(hB:ag.aq B)(hm:mo<500000000)(hok:ab.yW B mo r)(hst:ab.FH B mo n r r'):aA Tryz.prog 147 [.pointer (soz b),I6 n] [MJ b bl sz mo B r] (aF fun v G=>v=.bool (ab.k9 r')∧G=[MJ b bl sz mo B r']):=by
 rcases hst with⟨hx,rfl⟩|⟨hn1,s,rfl,he,hl2⟩
 ·cases r' with
  |ok s=>exact KX b bl sz mo B s n hok omg hx
  |error e=>exact KD b bl sz mo e n
 ·cases r' with
  |ok s2=>exact K7 b bl sz mo B s n hl hB hn1 hok omg he s2 hl2
  |error e=>exact Kg b bl sz mo B s n hl hB hn1 hok omg he e (ab.L5 hl2 rfl) hl2
end
attribute [local irreducible] ab.sK ab.ur ab.FT ab.k9 ab.Ou

def Pu(p:Option Addr)(cap:Nat)(B:List Int)(R:ad)(hR:∀w0 h,R w0 h→aE U5 p B.length B w0 h)(hl:B.length<500000000)(hB:ag.aq B)(mo:Int)(hm:0≤mo∧mo<500000000)(q:List Int×Int×Int)(hq:ab.iU B mo q):aA Tryz.prog 119 [.slice p B.length cap,I6 mo] [R] (aF fun v G=>∃qq cq,v=.tuple #[.slice qq q.1.length cq,I6 q.2.1,I6 q.2.2]∧G=[Row U5 qq q.1.length cq q.1,R]):=by
 refine ao [(0,_),(1,_)] Tryz.func119 rfl Tryz.ntmps119 rfl rfl ?_
 intro w0 F
 refine rT TT 11 rfl<|aQ (YB p cap B R hR hl mo hm.1) V.U3 rfl (an .nil) rfl ?_
 rintro _ _ ⟨b10,bl7,rfl,rfl⟩
 refine(Q6) ?_
 refine bA (M:=MJ b10 bl7 (B.length:Int) mo B (.ok ab.start)::R::F) (fun _ _ h=>h) ?_
 refine cF (fun(r:ab.Jt)=>[(7,.pointer (soz b10))]) (fun(r:ab.Jt)=>MJ b10 bl7 (B.length:Int) mo B r::R::F) (fun(r:ab.Jt)=>ab.yW B mo r∧ab.GD B mo ab.start r) (fun(r:ab.Jt)=>ab.HJ B r) (i1 (.ok ab.start) ?_ (iw ln) (sub (aJ .nil) aj)) ?_
 ·exact⟨ab.mN hm.1,ab.fS.refl _ _ _⟩
 intro r
 rintro⟨hok,hat⟩
 refine rL TT 4 rfl<|oC (OO b10 bl7 mo B r (B.length:Int)) V.xP rfl (an .nil) rfl<|oV (n8 rfl)<|(Q9) ?_
 refine wV rfl (fun h13=>?_) (fun h13=>?_)
 ·refine(Q3) ?_
  have he:ab.k9 r=false:=by simpa using h13
  obtain⟨r2,hst⟩:=ab.LC hB hok 1048576
  have hgj:=ab.Fj hB hok hat hst
  refine(Q5) ?_
  refine oC (Pe b10 bl7 mo B r (B.length:Int) 1048576 r2 hl hB hm.2 hok hst) V.abQ rfl (an .nil) rfl<|(Q9) ?_
  refine j1 (r2) ?_ (iw ln) (sub (aJ .nil) aj)
  exact⟨⟨hgj.ok,hgj.at_⟩,hgj.less he dec⟩
 ·refine(Qf) ?_
  have he:ab.k9 r=true:=by simpa using h13
  obtain rfl:=hq.oy (ab.O9 hm.1 hat he)
  refine(Q5) ?_
  refine aQ (Vp b10 bl7 mo B r (B.length:Int) hm.2 hok) V.Tv rfl (an .nil) rfl ?_
  rintro _ _ ⟨q17,c17,rfl,rfl⟩
  refine(Q8) ?_
  refine oC (OS b10 bl7 mo B r hl hm.2 hok) V.Tu rfl (.cons ar .nil) rfl<|(Q8) ?_
  refine oC (U0 b10 bl7 mo B r (B.length:Int)) V.W7 rfl (an .nil) rfl<|(Q1) ?_
  exact af (eY rfl rfl rfl) ⟨q17,c17,rfl,rfl⟩ (sub (.cons ar (.cons ar .nil)) bg)

def OI(p:Option Addr)(cap:Nat)(B:List Int)(R:ad)(hR:∀w0 h,R w0 h→aE U5 p B.length B w0 h)(hl:B.length<500000000)(mo:Int)(hm:mo<0)(q:List Int×Int×Int)(hq:ab.iU B mo q):aA Tryz.prog 119 [.slice p B.length cap,I6 mo] [R] (aF fun v G=>∃qq cq,v=.tuple #[.slice qq q.1.length cq,I6 q.2.1,I6 q.2.2]∧G=[Row U5 qq q.1.length cq q.1,R]):=by
 obtain rfl:=hq.oy (.inl ⟨hm,rfl⟩)
 refine ao [(0,_),(1,_)] Tryz.func119 rfl Tryz.ntmps119 rfl rfl ?_
 intro w0 F
 refine rT TT 11 rfl<|aQ (O5 p cap B R hR hl mo hm) V.U3 rfl (an .nil) rfl ?_
 rintro _ _ ⟨b10,bl7,rfl,rfl⟩
 refine(Q6) ?_
 refine cF (fun(z:Nat)=>[(7,.pointer (soz b10))]) (fun(z:Nat)=>MD b10 bl7 (B.length:Int) mo 1::R::F) (fun(z:Nat)=>True) (fun(z:Nat)=>z) (i1 (0) ?_ (iw ln) (sub (aJ .nil) aj)) ?_
 ·exact trivial
 intro z
 rintro-
 refine rL TT 4 rfl<|oC (ud b10 bl7 (B.length:Int) mo 1) V.xP rfl (an .nil) rfl<|(Qy) ?_
 refine aQ (CI b10 bl7 (B.length:Int) mo 1) V.Tv rfl (an .nil) rfl ?_
 rintro _ _ ⟨q17,c17,rfl,rfl⟩
 refine(Q8) ?_
 refine oC (ED b10 bl7 (B.length:Int) mo 1 dec) V.Tu rfl (.cons ar .nil) rfl<|(Q8) ?_
 refine oC (GF b10 bl7 (B.length:Int) mo 1) V.W7 rfl (an .nil) rfl<|(Q1) ?_
 exact af (eY rfl rfl rfl) ⟨q17,c17,rfl,rfl⟩ (sub (.cons ar (.cons ar .nil)) bg)
def Ys(p:Option Addr)(cap:Nat)(B:List Int)(R:ad)(hR:∀w0 h,R w0 h→aE U5 p B.length B w0 h)(hl:B.length<500000000)(hB:ag.aq B)(mo:Int)(hm:mo<500000000)(q:List Int×Int×Int)(hq:ab.iU B mo q):aA Tryz.prog 119 [.slice p B.length cap,I6 mo] [R] (aF fun v G=>∃qq cq,v=.tuple #[.slice qq q.1.length cq,I6 q.2.1,I6 q.2.2]∧G=[Row U5 qq q.1.length cq q.1,R]):=by
 by_cases h:mo<0
 ·exact OI p cap B R hR hl mo h q hq
 ·exact Pu p cap B R hR hl hB mo ⟨omg,hm⟩ q hq
end Go.Proofs.YtmaiakpjgomnpaaGreat
namespace Go.Proofs.YtmaiakpjgomnpaaGreat
open Go.Sl 
attribute [local irreducible] ae.bp ae.tk ae.ord ae.bV ae.words ae.cU ab.ja ab.gG
attribute [local irreducible] ae.wd ae.ns ae.k6 ae.p9
end Go.Proofs.YtmaiakpjgomnpaaGreat
namespace Go.Proofs.YtmaiakpjgomnpaaGreat
open Go.Sl 
end Go.Proofs.YtmaiakpjgomnpaaGreat
namespace Go.Proofs.YtmaiakpjgomnpaaGreat
open Go.Sl 
attribute [local irreducible] ae.bp ae.tk ae.ord ae.bV ae.words ae.cU ae.ns ae.k6 ae.p9 ae.wb ae.ins ae.bits
end Go.Proofs.YtmaiakpjgomnpaaGreat
namespace Go.Sl
abbrev TK:Ec aN.dR:=⟨245,3,fun t=>[.int .i64 t.lit,.int .i64 t.n,.int .i64 t.cm],⟨0,0,0⟩,fun _=>rfl,fun _=>rfl⟩
end Go.Sl
namespace Go.Proofs.YtmaiakpjgomnpaaGreat
open Go.Sl 
attribute [local irreducible] List.replicate aN.hs aN.x3 aN.FL aN.wE aN.Wx aN.ub aN.xA aN.zF
end Go.Proofs.YtmaiakpjgomnpaaGreat
namespace Go.Proofs.YtmaiakpjgomnpaaGreat
open Go.Sl 
attribute [local irreducible] aN.xe aN.Fu aN.yo aN.LU aN.Kf aN.xK aN.Lc aN.JH aN.xU aN.ua ae.bp ae.wb ae.ord ae.bV ae.words ae.cU ae.ns ae.k6 ae.p9
end Go.Proofs.YtmaiakpjgomnpaaGreat
namespace Go.Proofs.YtmaiakpjgomnpaaGreat
open Go.Sl 
attribute [local irreducible] aN.NR aN.Th aN.dn aN.rr aN.LD aN.Ap aN.BC aN.An aN.KS aN.ZQ aN.Zo aN.yo aN.LU aN.Kf aN.xK aN.Lc aN.JH List.replicate
end Go.Proofs.YtmaiakpjgomnpaaGreat
namespace Go.Sl
section
variable {C:Ctx} {E:Env} {L:List ad} {ty:TypeId}
def FX(l:List Int):l.flatMap (fun x=>[Value.int .u8 x])=l.map (Value.int .u8):=by
  induction l with
  |nil=>rfl
  |cons a l ih=>simp[List.flatMap_cons,ih]
def px{T:TypeId}{x:Operand}{src dst e:TypeId}{p:Option Addr}{n cap:Nat}{l:List Int}(hs:C.P.underlying src=some (.slice e))(he:C.P.underlying e=some (.int .u8))(hd:C.P.underlying dst=some .string)(hx:au E x=some (.slice p n cap))(H:Has C.w0 L (aK T .u8) p n l):cx C (.convert src dst x) ty E L (.string (strOfNums l)) L:=
  fun d pos aft g a w ha hi=>by
    refine⟨w,.inl ?_,hi,fun h=>by cases h⟩
    obtain⟨R,hm,hR⟩:=H
    have hh:=hi.mem hm
    have hlen:l.length=n:=Has.len ⟨R,hm,hR⟩ hi
    obtain⟨e1,e2⟩:=hi.rd hm (fun h hh=>(hR h hh).2)
    have hconv:(convert src dst (.slice p n cap)).run C.P w=.ok (.string (strOfNums l)) w:=by
      cases p with
      |none=>
        have h0:n=0:=by
          rcases e2 with h|⟨b,o,h,_⟩
          · exact h
          · cases h
        have hl:l=[]:=List.length_eq_zero_iff.1 omg
        rw[run_convert_bytes_nil w src e hs he n cap dst hd,hl]
        rfl
      |some q=>
        rcases e2 with h|⟨b,o,h,hc⟩
        · have hl:l=[]:=List.length_eq_zero_iff.1 omg
          subst hl
          subst h
          rw[run_convert_bytes_string w src dst e _ 0 cap hs he hd,run_bytesToString w q 0 cap [] (by simp[loadCells,loadCellsFrom])]
          rfl
        · cases h
          refine run_convert_bytes_arg w src e hs he b o n cap l hlen (fun i hi2=>?_) dst hd
          refine hc i _ ?_
          rw[FX]
          have hil:i<l.length:=omg
          simp[List.getElem?_map,List.getD_eq_getElem?_getD,hil]
    simp only[execOp,ha.eval hx,Sem.run_bind,hconv,Result.andThen_ok,Sem.run_pure]
def N0{x y:Operand}{t t':TypeId}{s u:ByteArray}{r:Bool}(hx:au E x=some (.string s))(hy:au E y=some (.string u))(hr:(s.toList==u.toList)=r):cx C (.binOp .eql t x y t') ty E L (.bool r) L:=
  dM fun d pos aft g a w ha=>by
    rw[kl d pos aft g (ha.eval hx) (ha.eval hy) (by simp[eqGuard])]
    simp[binOp,Op.stringOp,←hr,Sem.run_pure]
end
end Go.Sl
namespace Go.Sl
end Go.Sl
namespace Go.Sl
end Go.Sl
namespace Go.ag
def gU(n:Int):IntKind.u8.wrap n=n%256:=rfl
def C0{n:Int}(h0:0≤n)(h1:n<2^62):IntKind.i64.wrap ((BitVec.ofInt IntKind.i64.bits (-1)^^^BitVec.ofInt IntKind.i64.bits n).toNat:Int)= -n-1:=by
  obtain⟨a,rfl⟩:∃a:Nat,n=(a:Int):=⟨n.toNat,omg⟩
  have e:IntKind.i64.bits=64:=rfl
  have e1:BitVec.ofInt 64 (-1)=BitVec.allOnes 64:=by decide
  rw[e,e1,BitVec.xor_comm,BitVec.xor_allOnes,BitVec.toNat_not,dU,Nat.mod_eq_of_lt omg]
  have e2:∀m:Int,IntKind.i64.wrap m=if m%18446744073709551616≥9223372036854775808 then m%18446744073709551616-18446744073709551616 else m%18446744073709551616:=fun m=>by
    unfold IntKind.wrap
    have s1:IntKind.i64.signed=true:=rfl
    simp only[s1,e,Bool.true_and,decide_eq_true_eq]
    rfl
  rw[e2]
  have:a<2^62:=omg
  split<;>omega
end Go.ag
namespace Go.Sl
section
variable {C:Ctx} {E:Env} {L:List ad} {ty:TypeId}
def DL{x:Operand}{t:TypeId}{n r:Int}(h:au E x=some (.int .i64 n))(e:IntKind.i64.wrap ((BitVec.ofInt IntKind.i64.bits (-1)^^^BitVec.ofInt IntKind.i64.bits n).toNat:Int)=r):cx C (.unOp .xor t x) ty E L (.int .i64 r) L:=dM fun d pos aft g a w ha=>by
  rw[←e]
  have s1:IntKind.i64.signed=true:=rfl
  simp[execOp,ha.eval h,Op.unary,Op.intBits,s1]
end
end Go.Sl
namespace Go.Proofs.YtmaiakpjgomnpaaGreat
open Go.Sl 
attribute [local irreducible] aN.jA aN.iX ab.gg ab.gj ae.bp ae.ord ae.bV ae.words ae.cU ae.wb ae.p9 ae.k6 ae.ns aN.ua ab.ja ab.dO
def jo{c:Ec Int}{p:Option Addr}{n cap:Nat}{l:List Int}{R:ad}(hR:∀w0 h,R w0 h→aE c p n l w0 h)(k:Nat)(hk:k≤n):∀w0 h,R w0 h→aE c p k (l.take k) w0 h:=fun w0 h hh=>by
  have:=(hR w0 h hh).sub 0 k n (Nat.zero_le _) hk hk
  rwa [pF,Nat.sub_zero,List.drop_zero] at this
def eB{c:Ec Int}{p:Option Addr}{n:Nat}{l:List Int}{R:ad}(hR:∀w0 h,R w0 h→aE c p n l w0 h)(hl:l.length=n)(k m:Nat)(hk:k≤n)(hm:n≤m):∀w0 h,R w0 h→aE c (cM p k m c.sz) (n-k) (l.drop k) w0 h:=fun w0 h hh=>by
  have:=(hR w0 h hh).sub k n m hk (Nat.le_refl _) hm
  rwa [List.take_of_length_le (by rw[List.length_drop];omega)] at this
end Go.Proofs.YtmaiakpjgomnpaaGreat
namespace Go.Proofs.YtmaiakpjgomnpaaGreat
open Go.Sl 
attribute [local irreducible] ae.bp ae.ord ae.bV ae.words ae.cU ae.wb ae.p9 ae.k6 ae.ns aN.ua ab.dO ag.mJ aN.Nf aN.Ap aN.An aN.fA aN.fB my.xE
abbrev Q2:Ec (Int×Int):=⟨246,2,fun x=>[.int .i64 x.1,.int .i64 x.2],(0,0),fun _=>rfl,fun _=>rfl⟩
end Go.Proofs.YtmaiakpjgomnpaaGreat
namespace Go.Sl
structure Pc where
 w:Int
 p:Option Addr
 n:Nat
 c:Nat
 s:List Int
abbrev PC:Ec Pc:=⟨267,2,fun x=>[.int .i64 x.w,.slice x.p x.n x.c],⟨0,none,0,0,[]⟩,fun _=>rfl,fun _=>rfl⟩
structure Sx where
 p:Option Addr
 n:Nat
 c:Nat
abbrev PS:Ec Sx:=⟨265,1,fun x=>[.slice x.p x.n x.c],⟨none,0,0⟩,fun _=>rfl,fun _=>rfl⟩
abbrev QS:Ec Sx:=⟨47,1,fun x=>[.slice x.p x.n x.c],⟨none,0,0⟩,fun _=>rfl,fun _=>rfl⟩
def aeR (B:List Pc):ad:=fun w0 h=>cY w0 (B.map fun x=>Row I3 x.p x.n x.c x.s) h
def szs (xs:List Sx) (k:Nat):Nat:=((xs.take k).map Sx.n).sum
def pk (x:Pc):my.Pk:=(x.w,x.s)
def LL (po:Option Addr) (n co:Nat) (A0:List Pc) (pl:Option Addr) (nl cl:Nat) (l:List Pc):ad:=fun w0 h=>(Row PC po n co A0 w0 h∧pl=po∧nl=n∧cl=co∧l=A0)∨cY w0 [Row PC po n co A0,Row PC pl nl cl l] h
structure OkL (fr:List Int) (most:Int):Prop where
 m1:1≤most
 m2:most≤15
 len:fr.length≤320
 fre:∀i,i<fr.length→0≤fr.getD i 0∧fr.getD i 0≤1048576
 few:(my.V6 fr fr.length).length≤2^most.toNat
end Go.Sl
namespace Go.Proofs.YtmaiakpjgomnpaaGreat
open Go.Sl 
end Go.Proofs.YtmaiakpjgomnpaaGreat
namespace Go.Proofs.YtmaiakpjgomnpaaGreat
open Go.Sl 
end Go.Proofs.YtmaiakpjgomnpaaGreat
namespace Go.Proofs.YtmaiakpjgomnpaaGreat
open Go.Sl 
end Go.Proofs.YtmaiakpjgomnpaaGreat
namespace Go.Proofs.YtmaiakpjgomnpaaGreat
open Go.Sl Go.Shelf
def Xe:Go.Shelf.Ren:=⟨fun|189=>214|125=>228|257=>227|128=>243|129=>244|294=>234|295=>235|296=>236|297=>237|298=>238|299=>239|216=>240|300=>241|301=>242|328=>248|329=>249|330=>250|331=>251|332=>252|215=>230|343=>255|n=>n,fun|28=>47|3=>3|46=>52|0=>0|51=>76|53=>302|4=>4|183=>295|182=>294|131=>125|5=>5|9=>9|218=>305|222=>309|228=>311|229=>210|n=>n,fun|n=>n⟩
end Go.Proofs.YtmaiakpjgomnpaaGreat
namespace Go.Proofs.YtmaiakpjgomnpaaGreat
open Go.Sl 
end Go.Proofs.YtmaiakpjgomnpaaGreat
namespace Go.Proofs.YtmaiakpjgomnpaaGreat
open Go.Sl 
attribute [local irreducible] ae.bp ae.ord ae.bV ae.words ae.cU ae.wb ae.p9 ae.k6 ae.ns aN.ua ab.dO ag.mJ aN.Nf aN.Ap aN.An aN.fA aN.fB my.xE ae.bits aN.dA aN.dB aN.dF aN.Y7 aN.KL aN.LI aN.dC0 aN.dH aN.Z8 List.replicate aN.BC
end Go.Proofs.YtmaiakpjgomnpaaGreat
namespace Go.Proofs.YtmaiakpjgomnpaaGreat
open Go.Sl 
attribute [local irreducible] aN.iX aN.Tp aN.Vh aN.xA aN.sN aN.qx
abbrev S8:Ec Sx:=⟨22,1,fun x=>[.slice x.p x.n x.c],⟨none,0,0⟩,fun _=>rfl,fun _=>rfl⟩
end Go.Proofs.YtmaiakpjgomnpaaGreat
namespace Go.Proofs.YtmaiakpjgomnpaaGreat
open Go.Sl 
attribute [local irreducible] aN.qx
structure Dv where
  p1:Option Addr
  n1:Nat
  c1:Nat
  t:Int
  p2:Option Addr
  c2:Nat
def DN (b:Nat) (B:List Int) (t:Nat):ad:=fun w0 h=>∃i:Lv,True∧cY w0 [ai b 215 [.slice i.p1 B.length i.c1,.slice none 0 0,.int .i64 (t:Int),.bool false],Row U5 i.p1 B.length i.c1 B] h
def DD (b:Nat) (z:List Int):ad:=fun w0 h=>∃i:Dv,True∧cY w0 [ai b 215 [.slice i.p1 i.n1 i.c1,.slice i.p2 z.length i.c2,.int .i64 i.t,.bool true],Row U5 i.p2 z.length i.c2 z] h
def DM (b:Nat) (B:List Int):Option Nat→ad
  |some t=>DN b B t
  |none=>DD b (aN.qx B)
def aez (B:List Int) (s:Option Nat) (n:Int):Option Nat:=
  match s with
  |none=>none
  |some t=>if n<1 then some t else if(B.length:Int)≤t+n then none else some (t+n.toNat)
end Go.Proofs.YtmaiakpjgomnpaaGreat
namespace Go.Proofs.YtmaiakpjgomnpaaGreat
open Go.Sl 
attribute [local irreducible] aN.qx
section
variable (b:Nat) (B:List Int) (s:Option Nat)
def DOk (B:List Int):Option Nat→Prop
  |some t=>t≤B.length
  |none=>True
def aeS (B:List Int):Option Nat→List Int
  |some _=>[]
  |none=>aN.qx B
end
end Go.Proofs.YtmaiakpjgomnpaaGreat
namespace Go.Proofs.YtmaiakpjgomnpaaGreat
open Go.Sl 
attribute [local irreducible] ae.bp ae.tk ae.ord ae.bV ae.words ae.cU ab.gG ab.bX ab.cu ab.dG ab.hL ab.hD ab.hC ab.fg ab.told ab.dO ab.jH ab.rep ab.eL ab.dQ ab.sym ab.cT ag.aG ab.eW ab.dk ab.one ab.eK ab.k7 ab.nZ ab.gH ab.ia
def RU(b:Nat)(p:Option Addr)(cap:Nat)(B:List Int)(sh:Bool)(a:Nat)(hl:B.length<500000000)(ha:a≤8*B.length):aA Tryz.prog 153 [.pointer (soz b)] [ai b 151 [.slice p B.length cap,I6 (a:Int),.bool false,.bool sh]] (aF fun v G=>v=.tuple #[]∧G=[ai b 151 [.slice p B.length cap,I6 ((ab.cT a):Int),.bool false,.bool sh]]):=by
 refine ao [(0,_)] Tryz.func153 rfl Tryz.ntmps153 rfl rfl ?_
 intro w0 F
 refine(QV)<|(Ql)<|(Is)<|(qO)<|(xl)<|(m9) ?_
 refine ga ?_
 rw[show((a:Int)+7)/8*8=((ab.cT a:Nat):Int) from by rw[ab.w7];omega]
 exact ik fI ⟨rfl,rfl⟩ (sub (an .nil) aj)
def RJ(s:Int)(h:257≤s∧s<1000)(hx:285<s):aA Tryz.prog 156 [I6 s] [] (aF fun v G=>v=.tuple #[I6 0,I6 0,.bool false]∧G=[]):=by
 refine ao [(0,_)] Tryz.func156 rfl Tryz.ntmps156 rfl rfl ?_
 intro w0 F
 refine(mz) ?_
 refine cg (I3) ab.rE V.cy V.z3 rfl rfl rfl rfl rfl rfl ?_
 intro b7
 refine(Q6) ?_
 refine cg (I3) ab.rY V.cy V.z3 rfl rfl rfl rfl rfl rfl ?_
 intro b8
 refine rO TT 7 rfl ?_
 refine oV (bC (dD rfl rfl) omg) ?_
 refine rO TT 2 rfl ?_
 refine bB rfl ?_
 refine oV (bQ (cR rfl rfl) hx) ?_
 refine rO TT 13 rfl ?_
 exact af (eY rfl rfl rfl) ⟨rfl,rfl⟩ (sub .nil dC)

def Kw(s:Int)(h:257≤s∧s≤285):aA Tryz.prog 156 [I6 s] [] (aF fun v G=>v=.tuple #[I6 (ab.k7 (s-257)),I6 (ab.gH (s-257):Int),.bool true]∧G=[]):=by
 refine ao [(0,_)] Tryz.func156 rfl Tryz.ntmps156 rfl rfl ?_
 intro w0 F
 refine(mz) ?_
 refine cg (I3) ab.rE V.cy V.z3 rfl rfl rfl rfl rfl rfl ?_
 intro b7
 refine(Q6) ?_
 refine cg (I3) ab.rY V.cy V.z3 rfl rfl rfl rfl rfl rfl ?_
 intro b8
 refine(Qd) ?_
 refine(QL) ?_
 refine(Q9) ?_
 refine(Q0) ?_
 refine(Qo) ?_
 refine(Qd) ?_
 have hb:=ab.P6 (s:=s-257) omg
 have hb1:I3.g ab.rE (s-257)=ab.k7 (s-257):=hb.1
 have hb2:I3.g ab.rY (s-257)=(ab.gH (s-257):Int):=hb.2
 refine wN [pz 0 [] [5],pz 0 [] [0],pz 2 [1] [],pz 7 [0,2] [],pz 15 [3] [],pz 0 [] [6],pz 0 [] [0],pz 64 [6] [],pz 224 [5,7] [],pz 480 [8] [],pz 31 [4] [],pz 2047 [9] [],pz 4095 [] []] [⟨fun y=>Row I3 (soz b8) 29 29 ab.rY,none,none,[8,9]⟩,⟨fun y=>Row I3 (soz b7) 29 29 ab.rE,none,none,[3,4]⟩] F V.mixed ?_
 iterate 2 refine nM ?_
 refine nV (fun y hA L=>k5 rfl rfl wI) ?_
 refine nR (fun y FF hA=>xI V.cy (own ay)) ?_
 refine nR (fun y FF hA=>xL V.s3 (own ay)) ?_
 iterate 2 refine nM ?_
 refine nV (fun y hA L=>k5 rfl rfl wI) ?_
 refine nR (fun y FF hA=>xI V.cy (own ay)) ?_
 refine nR (fun y FF hA=>xL V.s3 (own ay)) ?_
 iterate 3 refine nA ?_
 refine(Qi) ?_
 intro y hA
 clear hA
 refine bJ<|bW _ (.cons (d:=2) rfl (.cons (d:=3) rfl (.cons (d:=4) rfl (.nil _))))<|bA (M:=Row I3 (soz b8) 29 29 ab.rY::Row I3 (soz b7) 29 29 ab.rE::F) (fun _ _ h=>h)<|bA (sub .nil (.skip (.skip .refl))) ?_
 simp only[List.nil_append]
 refine(Qa) ?_
 rw[hb1,hb2]
 exact af (eY rfl rfl rfl) ⟨rfl,rfl⟩ (sub .nil aj)
def LX(s:Int)(h:0≤s∧s<1000)(hx:29<s):aA Tryz.prog 157 [I6 s] [] (aF fun v G=>v=.tuple #[I6 0,I6 0,.bool false]∧G=[]):=by
 refine ao [(0,_)] Tryz.func157 rfl Tryz.ntmps157 rfl rfl ?_
 intro w0 F
 refine rT TT 11 rfl ?_
 refine oV (bC (dD rfl rfl) omg) ?_
 refine rO TT 2 rfl ?_
 refine bB rfl ?_
 refine oV (bQ (cR rfl rfl) hx) ?_
 refine rO TT 13 rfl ?_
 exact af (eY rfl rfl rfl) ⟨rfl,rfl⟩ (sub .nil aj)

def G8(s:Int)(h:0≤s∧s≤29):aA Tryz.prog 157 [I6 s] [] (aF fun v G=>v=.tuple #[I6 (ab.nZ s),I6 (ab.ia s:Int),.bool true]∧G=[]):=by
 refine ao [(0,_)] Tryz.func157 rfl Tryz.ntmps157 rfl rfl ?_
 intro w0 F
 refine rT TT 11 rfl ?_
 refine(QL) ?_
 refine(Q9) ?_
 refine(Q0) ?_
 refine(Qo) ?_
 refine(Qq) ?_
 refine av rfl (fun h13=>?_) (fun h13=>?_)
 ·refine(wM) ?_
  rw[ab.C6 omg,ab.Eh omg,Int.add_comm 1 s]
  exact af (eY rfl rfl rfl) ⟨rfl,rfl⟩ (sub .nil aj)
 ·refine(Qb)<|(qO)<|(xk) ?_
  obtain⟨hk1,hk2,hk3⟩:=ab.wm (s:=s) omg omg
  have hsh:=ab.mb (x:=2+s%2) (n:=ab.gO s) omg omg omg rfl
  rw[hk1]
  refine(Q5)<|(oU)<|(o7)<|(sk) ?_
  refine oV (fk (r:=(2+s%2)*2^ab.gO s) rfl rfl omg hsh.1)<|(QP) ?_
  rw[ab.Oe omg,ab.Gb omg,Int.add_comm 1 _]
  exact af (eY rfl rfl rfl) ⟨rfl,rfl⟩ (sub .nil aj)
section
variable (b2:Nat) (ls:List Int) (b:Nat) (p:Option Addr) (cap:Nat) (B:List Int) (R:ad) (hR:∀w0 h,R w0 h→aE U5 p B.length B w0 h) (sh:Bool) (a:Nat) (hE:ae.bp ls=0) (hl:B.length<500000000) (hB:ag.aq B) (ha:a≤8*B.length)
include hR hE hl hB ha
def Cm{s:Int}{a':Nat}(hs:ab.sym ls B a=.ok (s,a')):aA Tryz.prog 155 [.pointer (soz b2),.pointer (soz b)] [RC b2 ls,ai b 151 [.slice p B.length cap,I6 (a:Int),.bool false,.bool sh],R] (aF fun v G=>v=.tuple #[I6 s,I6 0]∧G=[RC b2 ls,ai b 151 [.slice p B.length cap,I6 (a':Int),.bool false,.bool sh],R]):=(H2 b2 ls b p cap B R hR a sh hE hl hB ha).mono fun e G h=>by
 unfold ab.sym at hs
 rcases h with⟨v,rfl,⟨n,s',h,rfl,rfl⟩|⟨n,h,rfl,rfl⟩|⟨n,h,rfl,rfl⟩⟩
 ·rw[h] at hs;cases hs;exact⟨_,rfl,rfl,rfl⟩
 ·rw[h] at hs;cases hs
 ·rw[h] at hs;cases hs
def BV{e:Int}(hs:ab.sym ls B a=.error e):aA Tryz.prog 155 [.pointer (soz b2),.pointer (soz b)] [RC b2 ls,ai b 151 [.slice p B.length cap,I6 (a:Int),.bool false,.bool sh],R] (aF fun v G=>v=.tuple #[I6 0,I6 e]∧∃n sh',G=[RC b2 ls,ai b 151 [.slice p B.length cap,I6 ((n:Nat):Int),.bool false,.bool sh'],R]):=(H2 b2 ls b p cap B R hR a sh hE hl hB ha).mono fun e G h=>by
 unfold ab.sym at hs
 rcases h with⟨v,rfl,⟨n,s',h,rfl,rfl⟩|⟨n,h,rfl,rfl⟩|⟨n,h,rfl,rfl⟩⟩
 ·rw[h] at hs;cases hs
 ·rw[h] at hs;cases hs;exact⟨_,rfl,rfl,_,_,rfl⟩
 ·rw[h] at hs;cases hs;exact⟨_,rfl,rfl,_,_,rfl⟩
end
end Go.Proofs.YtmaiakpjgomnpaaGreat
namespace Go.Proofs.YtmaiakpjgomnpaaGreat
open Go.Sl 
attribute [local irreducible] ae.bp ae.tk ae.ord ae.bV ae.words ae.cU ab.gG ab.bX ab.cu ab.dG ab.hL ab.hD ab.hC ab.fg ab.told ab.dO ab.jH ab.rep ab.eL ab.dQ ab.sym ab.cT ag.aG ab.eW ab.dk ab.one ab.eK ab.k7 ab.nZ ab.gH ab.ia
def PO (b:Nat) (p:Option Addr) (cap:Nat) (B:List Int) (R:ad):Except Int ab.St→Value→List ad→Prop
 |.error e,v,G=>v=.tuple #[.slice none 0 0,I6 e]∧G=[R]
 |.ok S,v,G=>∃q c sh,v=.tuple #[.slice q S.out.length c,I6 0]∧G=[ai b 151 [.slice p B.length cap,I6 (S.at_:Int),.bool false,.bool sh],R,Row U5 q S.out.length c S.out]
def qh(p:Option Addr)(n cap:Nat)(ls:List Int)(R:ad)(hn:n=ls.length)(hR:∀w0 h,R w0 h→aE I3 p ls.length ls w0 h)(hE:ae.bp ls=0):aA Tryz.prog 154 [.slice p n cap] [R] (aF fun v G=>∃b,v=.tuple #[.pointer (soz b),I6 0]∧G=[RC b ls,R]):=by subst hn;exact HN p cap ls R hR hE
def xo(p:Option Addr)(n cap:Nat)(ls:List Int)(R:ad)(hn:n=ls.length)(hR:∀w0 h,R w0 h→aE I3 p ls.length ls w0 h)(hE:ae.bp ls≠0):aA Tryz.prog 154 [.slice p n cap] [R] (aF fun v G=>v=.tuple #[.pointer none,I6 (ae.bp ls)]∧G=[R]):=by subst hn;exact K2 p cap ls R hR hE

def AF(b:Nat)(p:Option Addr)(cap:Nat)(B:List Int)(R:ad)(hR:∀w0 h,R w0 h→aE U5 p B.length B w0 h)(sh:Bool)(S:ab.St)(mo:Int)(po:Option Addr)(co:Nat)(hl:B.length<500000000)(hB:ag.aq B)(hm:0≤mo∧mo<500000000)(hok:ab.Ok B mo S)(o:Except Int ab.St)(hk1:S.kind= -1)(hc1:S.ax=0)(he1:S.ended=false)(hr1:S.at_+3≤8*B.length)(h01:ag.aG B (S.at_+1) 2=0)(hbo:ab.BO B mo S o):aA Tryz.prog 123 [.pointer (soz b),.slice po S.out.length co,I6 mo] [ai b 151 [.slice p B.length cap,I6 ((S.at_+3):Int),.bool false,.bool sh],R,Row U5 po S.out.length co S.out] (aF fun v G=>PO b p cap B R o v G):=by
 refine ao [(0,_),(1,_),(2,_)] Tryz.func123 rfl Tryz.ntmps123 rfl rfl ?_
 intro w0 F
 have hal:=ab.TX (n:=B.length) hr1
 have hb1:=ag.aX B (ab.cT (S.at_+3)) 16
 have hb2:=ag.aX B (ab.cT (S.at_+3)+16) 16
 refine(mz) ?_
 refine oC (RU b p cap B sh (S.at_+3) hl hr1) V.acb rfl (an .nil) rfl<|(Q1) ?_
 refine oC (tA b p cap B R hR (ab.cT (S.at_+3)) sh hl omg) V.yc rfl (aJ .nil) rfl<|(Qc) ?_
 refine av rfl (fun h19=>?_) (fun h19=>?_)
 ·refine(pB) ?_
  obtain rfl:=hbo.err (ab.wG hr1 h01 omg)
  exact af (bR rfl rfl) ⟨rfl,rfl⟩ (sub (.cons ar .nil) dC)
 ·refine(Qb) ?_
  refine oC (jk b p cap B R hR (ab.cT (S.at_+3)) sh 16 hl hB omg omg) V.lO rfl (aJ .nil) rfl<|(Qg) ?_
  refine oC (jk b p cap B R hR (ab.cT (S.at_+3)+16) sh 16 hl hB omg omg) V.lO rfl (aJ .nil) rfl<|(w5) ?_
  refine av rfl (fun h33=>?_) (fun h33=>?_)
  ·refine(pB) ?_
   obtain rfl:=hbo.err (ab.Aq hr1 h01 omg omg)
   exact af (bR rfl rfl) ⟨rfl,rfl⟩ (sub (.cons ar .nil) dC)
  ·refine(Q4) ?_
   have hbl:=hbo.go (ab.th hr1 h01 omg omg)
   have hok1:=(ab.dX hB hok ((ab.kS omg hk1).trans (ab.th hr1 h01 omg omg))).ok
   refine(Qb) ?_
   refine uq (fun(s:ab.St) (i:Nat) (q:Option Addr) (c:Nat)=>[(0,.pointer (soz b)),(1,.slice q s.out.length c),(2,I6 mo),(8,I6 (ag.aG B (ab.cT (S.at_+3)) 16)),(12,I6 (i:Int))]) (fun(s:ab.St) (i:Nat) (q:Option Addr) (c:Nat)=>ai b 151 [.slice p B.length cap,I6 (s.at_:Int),.bool false,.bool sh]::R::Row U5 q s.out.length c s.out::F) (fun(s:ab.St) (i:Nat) (q:Option Addr) (c:Nat)=>ab.Bl B mo s o∧ab.Ok B mo s∧s.kind=0∧s.ax=0∧(s.left:Int)+(i:Int)=(ag.aG B (ab.cT (S.at_+3)) 16)) (fun(s:ab.St) (i:Nat) (q:Option Addr) (c:Nat)=>s.left) (i4 ({S with at_:=(ab.cT (S.at_+3)+32),kind:=0,left:=(ag.aG B (ab.cT (S.at_+3)) 16).toNat,last:=decide (ag.aG B S.at_ 1=1)}) (0) (po) (co) ?_ (bb ln) (sub (dV .nil) aj)) ?_
   ·exact⟨hbl,hok1,rfl,hc1,by show(((ag.aG B (ab.cT (S.at_+3)) 16).toNat:Nat):Int)+((0:Nat):Int)=_;omega⟩
   intro s i q c
   rintro⟨hbs,hok2,hk,hcs,hli⟩
   refine(nC) ?_
   refine av rfl (fun h36=>?_) (fun h36=>?_)
   ·refine(Qf) ?_
    have hat:=hok2.at_
    have hro:=hok2.room
    have hlf:=hok2.left
    have hnb:=ag.aX B s.at_ 8
    have hl0:¬s.left=0:=omg
    refine(Q5) ?_
    refine oC (tA b p cap B R hR s.at_ sh hl omg) V.yc rfl (aJ .nil) rfl<|(Qc) ?_
    refine av rfl (fun h41=>?_) (fun h41=>?_)
    ·refine(oZ) ?_
     obtain rfl:=hbs.err (fun h=>absurd (hk.symm.trans h) dec) (ab.sC omg (fun h=>absurd (hk.symm.trans h) dec) hk hl0 omg)
     exact af (bR rfl rfl) ⟨rfl,rfl⟩ (sub (.cons ar .nil) dC)
    ·refine(lW) ?_
     refine av rfl (fun h45=>?_) (fun h45=>?_)
     ·refine(oZ) ?_
      obtain rfl:=hbs.err (fun h=>absurd (hk.symm.trans h) dec) ((ab.pS omg (fun h=>absurd (hk.symm.trans h) dec) hk hl0 omg).trans (ab.lr (by show¬(s.out.length:Int)<mo;omega)))
      exact af (bR rfl rfl) ⟨rfl,rfl⟩ (sub (.cons ar .nil) dC)
     ·refine(Qb) ?_
      refine oC (jk b p cap B R hR s.at_ sh 8 hl hB omg omg) V.lO rfl (aJ .nil) rfl<|(Qg)<|(sb) ?_
      refine cg (U5) [(ag.aG B s.at_ 8)] V.bT V.z5 rfl rfl rfl rfl rfl rfl ?_
      intro Oa
      refine(Zw) ?_
      intro p55 c55
      refine(QU) ?_
      have hone:=ab.BT (B:=B) (mo:=mo) (s:=s) omg (fun h=>absurd (hk.symm.trans h) dec) hk hl0 omg omg
      have hg2:=ab.dX hB hok2 hone
      rw[show s.out.length+1=(s.out++[(ag.aG B s.at_ 8)]).length from by simp]
      refine j4 ({s with at_:=s.at_+8,left:=s.left-1,out:=s.out++[(ag.aG B s.at_ 8)]}) (i+1) (_) (_) ?_ (bb ln) (sub (.cons aL (.cons aL (an .nil))) bg)
      exact⟨⟨hbs.next (fun h=>absurd (hk.symm.trans h) dec) hone,hg2.ok,hk,hcs,by show((s.left-1:Nat):Int)+((i+1:Nat):Int)=_;omega⟩,by show s.left-1<s.left;omega⟩
   ·refine(Qf) ?_
    have hl0:s.left=0:=omg
    refine(Qr) ?_
    have hone:=ab.qF (B:=B) (mo:=mo) (s:=s) omg (fun h=>absurd (hk.symm.trans h) dec) hk hl0
    obtain rfl:=(hbs.next (fun h=>absurd (hk.symm.trans h) dec) hone).end_ rfl
    exact af (bR rfl rfl) ⟨q,c,sh,rfl,rfl⟩ (sub (dV .nil) aj)

def Ry:aA Tryz.prog 124 [] [] (aF fun v G=>∃x y,v=.tuple #[.pointer (soz x),.pointer (soz y)]∧G=[RC x ab.dO,RC y ab.jT]):=by
 refine ao [] Tryz.func124 rfl Tryz.ntmps124 rfl rfl ?_
 intro w0 F
 refine rT TT 19 rfl<|(ZK) ?_
 refine dP (fun(k:Nat) (q:Option Addr) (c:Nat)=>[(2,.slice q k c),(3,.slice none 0 0),(4,I6 (k:Int))]) (fun(k:Nat) (q:Option Addr) (c:Nat)=>Row I3 q k c (ab.dO.take k)::F) (fun(k:Nat) (q:Option Addr) (c:Nat)=>k≤288) (fun(k:Nat) (q:Option Addr) (c:Nat)=>288-k) (i3 (0) (none) (0) ?_ (eo ln) (sub (an .nil) aj)) ?_
 ·exact Nat.zero_le _
 intro k q c
 rintro hk
 refine(qP) ?_
 refine av rfl (fun h11=>?_) (fun h11=>?_)
 ·refine(qG) ?_
  refine av rfl (fun h17=>?_) (fun h17=>?_)
  ·refine(Q5) ?_
   refine cg (I3) [8] V.cy V.z3 rfl rfl rfl rfl rfl rfl ?_
   intro kM
   refine(uK) ?_
   intro p22 c22
   refine(uM) ?_
   (rw[ab.Um (k:=k) omg];refine j3 (k+1) _ _ ?_ (eo ln) (sub (an .nil) bg);exact⟨omg,omg⟩)
  ·refine(Qr) ?_
   refine av rfl (fun h23=>?_) (fun h23=>?_)
   ·refine(Q5) ?_
    refine cg (I3) [9] V.cy V.z3 rfl rfl rfl rfl rfl rfl ?_
    intro MR
    refine(uK) ?_
    intro p28 c28
    refine(uM) ?_
    (rw[ab.Ua (k:=k) omg];refine j3 (k+1) _ _ ?_ (eo ln) (sub (an .nil) bg);exact⟨omg,omg⟩)
   ·refine(Qr) ?_
    refine av rfl (fun h29=>?_) (fun h29=>?_)
    ·refine(Q5) ?_
     refine cg (I3) [7] V.cy V.z3 rfl rfl rfl rfl rfl rfl ?_
     intro b33
     refine(uK) ?_
     intro p34 c34
     refine(uM) ?_
     (rw[ab.Tm (k:=k) omg];refine j3 (k+1) _ _ ?_ (eo ln) (sub (an .nil) bg);exact⟨omg,omg⟩)
    ·refine(Q5) ?_
     refine cg (I3) [8] V.cy V.z3 rfl rfl rfl rfl rfl rfl ?_
     intro iN
     refine(uK) ?_
     intro p16 c16
     refine(uM) ?_
     (rw[ab.PZ (k:=k) omg];refine j3 (k+1) _ _ ?_ (eo ln) (sub (an .nil) bg);exact⟨omg,omg⟩)
 ·refine(qG) ?_
  refine gL (Row I3 none 0 0 (List.replicate 0 5)) (Row.nil _ _ _) ?_
  refine dP (fun(m:Nat) (q2:Option Addr) (c2:Nat)=>[(2,.slice q k c),(3,.slice q2 m c2),(5,I6 (m:Int))]) (fun(m:Nat) (q2:Option Addr) (c2:Nat)=>Row I3 q2 m c2 (List.replicate m 5)::Row I3 q k c (ab.dO.take k)::F) (fun(m:Nat) (q2:Option Addr) (c2:Nat)=>m≤32) (fun(m:Nat) (q2:Option Addr) (c2:Nat)=>32-m) (i3 (0) (none) (0) ?_ (eo ln) (sub (aJ .nil) aj)) ?_
  ·exact Nat.zero_le _
  intro m q2 c2
  rintro hm
  refine(qP) ?_
  refine av rfl (fun h36=>?_) (fun h36=>?_)
  ·refine(Qf) ?_
   refine cg (I3) [5] V.cy V.z3 rfl rfl rfl rfl rfl rfl ?_
   intro IH
   refine(uK) ?_
   intro p41 c41
   refine(QU) ?_
   rw[←List.replicate_succ']
   refine j3 (m+1) (_) (_) ?_ (eo ln) (sub (an (.cons ar .nil)) bg)
   exact⟨omg,omg⟩
  ·refine(Qf) ?_
   obtain rfl:m=32:=omg
   obtain rfl:k=288:=omg
   rw[show(ab.dO.take 288)=ab.dO from List.take_of_length_le (by rw[ab.ry];decide),show List.replicate 32 5=ab.jT from rfl]
   refine(Q5) ?_
   refine aQ (qh q 288 c ab.dO (Row I3 q 288 c ab.dO) ab.ry.symm (fun _ _ hh=>ni ab.ry.symm hh) ab.xN) V.pP rfl (.cons ar .nil) rfl ?_
   rintro _ _ ⟨x,rfl,rfl⟩
   refine(Qg) ?_
   refine aQ (qh q2 32 c2 ab.jT (Row I3 q2 32 c2 ab.jT) ab.vB.symm (fun _ _ hh=>ni ab.vB.symm hh) ab.yw) V.pP rfl (.cons aL .nil) rfl ?_
   rintro _ _ ⟨z,rfl,rfl⟩
   refine(QO) ?_
   exact af (bR rfl rfl) ⟨x,z,rfl,rfl⟩ (sub (.cons aL (an .nil)) dC)

def uc(b:Nat)(p:Option Addr)(cap:Nat)(B:List Int)(R:ad)(hR:∀w0 h,R w0 h→aE U5 p B.length B w0 h)(sh:Bool)(S:ab.St)(mo:Int)(po:Option Addr)(co:Nat)(hl:B.length<500000000)(hB:ag.aq B)(hm:0≤mo∧mo<500000000)(hok:ab.Ok B mo S)(o:Except Int ab.St)(l d:Nat)(hkp:0<S.kind)(hc1:S.ax=0)(he1:S.ended=false)(hbo:ab.Bl B mo S o):aA Tryz.prog 125 [.pointer (soz b),.pointer (soz l),.pointer (soz d),.slice po S.out.length co,I6 mo] [ai b 151 [.slice p B.length cap,I6 (S.at_:Int),.bool false,.bool sh],R,RC l S.lits,RC d S.du,Row U5 po S.out.length co S.out] (aF fun v G=>PO b p cap B R o v G):=by
 refine ao [(0,_),(1,_),(2,_),(3,_),(4,_)] Tryz.func125 rfl Tryz.ntmps125 rfl rfl ?_
 intro w0 F
 obtain⟨hE1,hE2,hz1,hz2⟩:=hok.Fp hkp
 have hll:=ab.qR hE1
 have hdl:=ab.qR hE2
 refine rT TT 7 rfl ?_
 refine dP (fun(s:ab.St) (q:Option Addr) (c:Nat)=>[(0,.pointer (soz b)),(1,.pointer (soz l)),(2,.pointer (soz d)),(3,.slice q s.out.length c),(4,I6 mo)]) (fun(s:ab.St) (q:Option Addr) (c:Nat)=>ai b 151 [.slice p B.length cap,I6 (s.at_:Int),.bool false,.bool sh]::R::RC l S.lits::RC d S.du::Row U5 q s.out.length c s.out::F) (fun(s:ab.St) (q:Option Addr) (c:Nat)=>ab.Bl B mo s o∧ab.Ok B mo s∧s.kind=S.kind∧s.ax=0∧s.lits=S.lits∧s.du=S.du) (fun(s:ab.St) (q:Option Addr) (c:Nat)=>ab.mu B s) (i3 (S) (po) (co) ?_ (bb ln) (sub (iV .nil) aj)) ?_
 ·exact⟨hbo,hok,rfl,hc1,rfl,rfl⟩
 intro s q c
 rintro⟨hbs,hoks,hk,hcs,hlt,hdt⟩
 refine rL TT 1 rfl ?_
 rcases(ab.qL (B:=B) (ls:=S.lits) (a:=s.at_) hE1 hz1) with⟨e,hs⟩|⟨sy,a1,hs,hy0,hy1,ha0,ha1⟩
 ·refine(Qa) ?_
  have hat:=hoks.at_
  have hro:=hoks.room
  refine(Q3) ?_
  refine aQ (BV l S.lits b p cap B R hR sh s.at_ hE1 hl hB hat hs) V.xQ rfl (.cons aL (aJ .nil)) rfl ?_
  rintro _ _ ⟨rfl,n9,sh9,rfl⟩
  refine(Qj) ?_
  refine oV (bQ (bO rfl rfl) (ab.pY hs))<|(QC) ?_
  obtain rfl:=hbs.err omg ((ab.jF omg omg omg).trans (ab.tG (by rw[hlt];exact hs)))
  exact af (bR rfl rfl) ⟨rfl,rfl⟩ (sub (.cons aL .nil) gF)
 ·refine(Qa) ?_
  have hat:=hoks.at_
  have hro:=hoks.room
  refine(Q3) ?_
  refine oC (Cm l S.lits b p cap B R hR sh s.at_ hE1 hl hB hat hs) V.xQ rfl (.cons aL (aJ .nil)) rfl<|(Qj)<|(sd)<|(Qy) ?_
  refine av rfl (fun h31=>?_) (fun h31=>?_)
  ·refine(qG) ?_
   have hone:=(ab.jF (B:=B) (mo:=mo) (s:=s) omg omg omg).trans (ab.ou (B:=B) (most:=mo) (s:=s) (by rw[hlt];exact hs) omg)
   obtain rfl:=(hbs.next omg hone).end_ rfl
   exact af (bR rfl rfl) ⟨q,c,sh,rfl,rfl⟩ (sub (.cons ar (.cons ar (.cons aL .nil))) dC)
  ·refine(QJ) ?_
   refine av rfl (fun h34=>?_) (fun h34=>?_)
   ·refine(QJ) ?_
    refine av rfl (fun h38=>?_) (fun h38=>?_)
    ·refine(qG) ?_
     obtain rfl:=hbs.err omg ((ab.jF omg omg omg).trans ((ab.mc (by rw[hlt];exact hs) omg).trans (ab.lr (by show¬(s.out.length:Int)<mo;omega))))
     exact af (bR rfl rfl) ⟨rfl,rfl⟩ (sub (.cons aL .nil) gF)
    ·refine(Qf)<|(sb) ?_
     refine cg (U5) [sy] V.bT V.z5 rfl rfl rfl rfl rfl rfl ?_
     intro b42
     refine(Zx) ?_
     intro p43 c43
     refine(Q1) ?_
     (have hone:=(ab.jF (B:=B) (mo:=mo) (s:=s) omg omg omg).trans ((ab.mc (by rw[hlt];exact hs) omg).trans (ab.mH (by show(s.out.length:Int)<mo;omega)));have hg1:=ab.dX hB hoks hone;rw[show s.out.length+1=(s.out++[sy]).length from by simp];refine j3 ({s with at_:=a1,out:=s.out++[sy]}) (_) (_) ?_ (bb ln) (sub (.cons cB (.cons cB (.cons aL (.cons aL (an .nil))))) bg);exact⟨⟨hbs.next omg hone,hg1.ok,hk,hcs,hlt,hdt⟩,hg1.less⟩)
   ·refine(Q5) ?_
    rcases(Nat.lt_or_ge 285 sy.toNat) with hsy|hsy
    ·refine(Q3) ?_
     refine oC (RJ sy omg omg) V.UJ rfl .nil rfl<|rO TT 28 rfl ?_
     obtain rfl:=hbs.err omg ((ab.jF omg omg omg).trans (ab.rI (by rw[hlt];exact hs) omg (ab.BP omg)))
     exact af (bR rfl rfl) ⟨rfl,rfl⟩ (sub (.cons aL .nil) gF)
    ·refine(Q3) ?_
     refine oC (Kw sy omg) V.UJ rfl .nil rfl<|rO TT 19 rfl ?_
     rcases(Nat.lt_or_ge (8*B.length) (a1+ab.gH (sy-257))) with hx1|hx1
     ·refine(Qa) ?_
      have hlb:=ab.Js (s:=sy-257) omg
      have hnl:=ag.aX B a1 (ab.gH (sy-257))
      have hpl:=ag.iQ (show(ab.gH (sy-257))≤24 by omega)
      refine(Q3) ?_
      refine oC (qb b p cap B R hR a1 sh (ab.gH (sy-257)) hl hB omg omg omg) V.lO rfl (.cons ar (.cons ar .nil)) rfl<|rO TT 26 rfl ?_
      obtain rfl:=hbs.err omg ((ab.jF omg omg omg).trans (ab.rI (by rw[hlt];exact hs) omg (ab.OF omg omg)))
      exact af (bR rfl rfl) ⟨rfl,rfl⟩ (sub (.cons ar .nil) gF)
     ·refine(Qa) ?_
      have hlb:=ab.Js (s:=sy-257) omg
      have hnl:=ag.aX B a1 (ab.gH (sy-257))
      have hpl:=ag.iQ (show(ab.gH (sy-257))≤24 by omega)
      refine(Q3) ?_
      refine oC (jk b p cap B R hR a1 sh (ab.gH (sy-257)) hl hB omg omg) V.lO rfl (.cons ar (.cons ar .nil)) rfl<|jC TT 25 rfl omg ?_
      rcases(ab.qL (B:=B) (ls:=S.du) (a:=(a1+ab.gH (sy-257))) hE2 hz2) with⟨e,hs2⟩|⟨dy,a3,hs2,hd0,hd1,ha2,ha3⟩
      ·refine(Qa) ?_
       obtain⟨n,hn⟩:∃n:Nat,(ab.k7 (sy-257))+ag.aG B a1 (ab.gH (sy-257))=(n:Int):=⟨_,(Int.toNat_of_nonneg omg).symm⟩
       rw[hn]
       have hle:=ab.CG omg hx1 hn
       refine(Q3) ?_
       refine aQ (BV d S.du b p cap B R hR sh (a1+ab.gH (sy-257)) hE2 hl hB omg hs2) V.xQ rfl (.cons cB (aJ .nil)) rfl ?_
       rintro _ _ ⟨rfl,n9,sh9,rfl⟩
       refine(Qj) ?_
       refine oV (bQ (bO rfl rfl) (ab.pY hs2))<|(QC) ?_
       obtain rfl:=hbs.err omg ((ab.jF omg omg omg).trans (ab.o0 (by rw[hlt];exact hs) omg hle (by rw[hdt];exact ab.Al hs2)))
       exact af (bR rfl rfl) ⟨rfl,rfl⟩ (sub (.cons aL .nil) gF)
      ·refine(Qa) ?_
       obtain⟨n,hn⟩:∃n:Nat,(ab.k7 (sy-257))+ag.aG B a1 (ab.gH (sy-257))=(n:Int):=⟨_,(Int.toNat_of_nonneg omg).symm⟩
       rw[hn]
       have hle:=ab.CG omg hx1 hn
       refine(Q3) ?_
       refine oC (Cm d S.du b p cap B R hR sh (a1+ab.gH (sy-257)) hE2 hl hB omg hs2) V.xQ rfl (.cons cB (aJ .nil)) rfl<|(Qj)<|(sd)<|(Q6) ?_
       rcases(Nat.lt_or_ge 29 dy.toNat) with hdy|hdy
       ·refine(Q3) ?_
        refine oC (LX dy omg omg) V.R6 rfl .nil rfl<|rO TT 28 rfl ?_
        obtain rfl:=hbs.err omg ((ab.jF omg omg omg).trans (ab.o0 (by rw[hlt];exact hs) omg hle (by rw[hdt];exact ab.xy hs2 omg)))
        exact af (bR rfl rfl) ⟨rfl,rfl⟩ (sub (.cons aL .nil) gF)
       ·refine(Q3) ?_
        refine oC (G8 dy omg) V.R6 rfl .nil rfl<|rO TT 19 rfl ?_
        rcases(Nat.lt_or_ge (8*B.length) (a3+ab.ia dy)) with hx2|hx2
        ·refine(Qa) ?_
         have hdb:=ab.JA (s:=dy) omg
         have hnd:=ag.aX B a3 (ab.ia dy)
         have hpd:=ag.iQ (show(ab.ia dy)≤24 by omega)
         refine(Q3) ?_
         refine oC (qb b p cap B R hR a3 sh (ab.ia dy) hl hB omg omg omg) V.lO rfl (.cons ar (.cons ar .nil)) rfl<|rO TT 26 rfl ?_
         obtain rfl:=hbs.err omg ((ab.jF omg omg omg).trans (ab.o0 (by rw[hlt];exact hs) omg hle (by rw[hdt];exact ab.LK hs2 omg omg)))
         exact af (bR rfl rfl) ⟨rfl,rfl⟩ (sub (.cons ar .nil) gF)
        ·refine(Qa) ?_
         have hdb:=ab.JA (s:=dy) omg
         have hnd:=ag.aX B a3 (ab.ia dy)
         have hpd:=ag.iQ (show(ab.ia dy)≤24 by omega)
         refine(Q3) ?_
         refine oC (jk b p cap B R hR a3 sh (ab.ia dy) hl hB omg omg) V.lO rfl (.cons ar (.cons ar .nil)) rfl<|jC TT 27 rfl omg ?_
         obtain⟨f,hf⟩:∃f:Nat,(ab.nZ dy)+ag.aG B a3 (ab.ia dy)=(f:Int):=⟨_,(Int.toNat_of_nonneg omg).symm⟩
         rw[hf]
         have haw:=ab.Lm hs2 omg hx2 hf
         have hn4:=ab.yM omg ha1 hle
         refine(Qr) ?_
         refine av rfl (fun h94=>?_) (fun h94=>?_)
         ·refine(lW) ?_
          obtain rfl:=hbs.err omg ((ab.jF omg omg omg).trans (ab.ug (by rw[hlt];exact hs) omg hle (by rw[hdt];exact haw) omg))
          exact af (bR rfl rfl) ⟨rfl,rfl⟩ (sub (.cons ar .nil) gF)
         ·refine(Q3) ?_
          have hone:=(ab.jF (B:=B) (mo:=mo) (s:=s) omg omg omg).trans (ab.ue (by rw[hlt];exact hs) omg hle (by rw[hdt];exact haw) omg)
          rw[Int.toNat_natCast,Int.toNat_natCast] at hone
          have hg1:=ab.dX hB hoks hone
          have hb5:=hbs.next omg hone
          refine(Qb) ?_
          refine uq (fun(s5:ab.St) (i:Nat) (q5:Option Addr) (c5:Nat)=>[(0,.pointer (soz b)),(1,.pointer (soz l)),(2,.pointer (soz d)),(3,.slice q5 s5.out.length c5),(4,I6 mo),(14,I6 (n:Int)),(19,I6 (f:Int)),(20,I6 (i:Int))]) (fun(s5:ab.St) (i:Nat) (q5:Option Addr) (c5:Nat)=>ai b 151 [.slice p B.length cap,I6 ((a3+ab.ia dy):Int),.bool false,.bool sh]::R::RC l S.lits::RC d S.du::Row U5 q5 s5.out.length c5 s5.out::F) (fun(s5:ab.St) (i:Nat) (q5:Option Addr) (c5:Nat)=>ab.Bl B mo s5 o∧ab.Ok B mo s5∧s5.kind=S.kind∧s5.ax+i=n∧s5.lits=S.lits∧s5.du=S.du∧s5.cm=f∧s5.at_=(a3+ab.ia dy)∧ab.mu B s5<ab.mu B s) (fun(s5:ab.St) (i:Nat) (q5:Option Addr) (c5:Nat)=>s5.ax) (i4 ({s with at_:=(a3+ab.ia dy),ax:=n,cm:=f}) (0) (q) (c) ?_ (eo (bb ln)) (sub (aJ (.cons ar (.cons dJ (.cons dJ .nil)))) aj)) ?_
          ·exact⟨hb5,hg1.ok,hk,rfl,hlt,hdt,rfl,rfl,hg1.less⟩
          intro s5 i q5 c5
          rintro⟨hb6,hok5,hk5,hi5,hl5,hd5,hf5,ha5,hmu5⟩
          refine(nC) ?_
          refine av rfl (fun h97=>?_) (fun h97=>?_)
          ·refine(Qf) ?_
           have hro5:=hok5.room
           have hcp:0<s5.ax:=omg
           have hfr:=hok5.cm hcp
           refine(Qr) ?_
           refine av rfl (fun h103=>?_) (fun h103=>?_)
           ·refine rC TT 15 rfl ?_
            obtain rfl:=hb6.err omg (ab.IN hcp (ab.lr omg))
            exact af (bR rfl rfl) ⟨rfl,rfl⟩ (sub (.cons ar .nil) gF)
           ·refine(Q5) ?_
            have hge:(U5.g s5.out ((s5.out.length:Int)-(f:Int)))=s5.out.getD (s5.out.length-s5.cm) 0:=by rw[hf5];exact gE _ omg
            refine(r3) ?_
            refine oV (xI V.bT (own ic))<|oV (xL V.s5 (own ic))<|cg (U5) [(U5.g s5.out ((s5.out.length:Int)-(f:Int)))] V.bT V.z5 rfl rfl rfl rfl rfl rfl ?_
            intro KO
            refine(Zx) ?_
            intro p113 c113
            refine(QU) ?_
            have hone5:=ab.GJ (B:=B) (mo:=mo) (s:=s5) hcp omg
            rw[←hge] at hone5
            have hg5:=ab.dX hB hok5 hone5
            rw[show s5.out.length+1=(s5.out++[(U5.g s5.out ((s5.out.length:Int)-(f:Int)))]).length from by simp]
            refine j4 ({s5 with ax:=s5.ax-1,out:=s5.out++[(U5.g s5.out ((s5.out.length:Int)-(f:Int)))]}) (i+1) (_) (_) ?_ (eo (bb ln)) (sub (.cons aL (.cons aL (.cons aL (.cons aL (an .nil))))) bg)
            exact⟨⟨hb6.next omg hone5,hg5.ok,hk5,by show s5.ax-1+(i+1)=n;omega,hl5,hd5,hf5,ha5,Nat.lt_trans hg5.less hmu5⟩,by show s5.ax-1<s5.ax;omega⟩
          ·refine(Qb) ?_
           (have hi0:s5.ax=0:=omg;rw[show((a3:Int)+(ab.ia dy:Int))=(s5.at_:Int) from omg];refine j3 (s5) (_) (_) ?_ (bb ln) (sub (iV .nil) aj);exact⟨⟨hb6,hok5,hk5,hi0,hl5,hd5⟩,hmu5⟩)
end Go.Proofs.YtmaiakpjgomnpaaGreat
namespace Go.Proofs.YtmaiakpjgomnpaaGreat
open Go.Sl 
attribute [local irreducible] ae.bp ae.tk ae.ord ae.bV ae.words ae.cU ab.gG ab.bX ab.cu ab.dG ab.hL ab.hD ab.hC ab.fg ab.told ab.dO ab.jH ab.rep ab.eL ab.dQ ab.sym ab.cT ag.aG ab.eW ab.dk ab.one ab.eK ab.k7 ab.nZ ab.gH ab.ia ab.dE ab.iu ab.ib ab.jT
def PD (b:Nat) (p:Option Addr) (cap:Nat) (B:List Int) (R:ad):Except Int (Nat×List Int×List Int)→Value→List ad→Prop
 |.error e,v,G=>v=.tuple #[.pointer none,.pointer none,I6 e]∧G=[R]
 |.ok (a,l,d),v,G=>∃x y sh,v=.tuple #[.pointer (soz x),.pointer (soz y),I6 0]∧G=[ai b 151 [.slice p B.length cap,I6 (a:Int),.bool false,.bool sh],R,RC x l,RC y d]

def NB(b:Nat)(p:Option Addr)(cap:Nat)(B:List Int)(R:ad)(hR:∀w0 h,R w0 h→aE U5 p B.length B w0 h)(sh:Bool)(a:Nat)(hl:B.length<500000000)(hB:ag.aq B)(ha:a≤8*B.length)(o:Except Int (Nat×List Int×List Int))(ho:ab.told B a=o):aA Tryz.prog 126 [.pointer (soz b)] [ai b 151 [.slice p B.length cap,.int .i64 (a:Int),.bool false,.bool sh],R] (aF fun v G=>PD b p cap B R o v G):=by
 refine ao [(0,_)] Tryz.func126 rfl Tryz.ntmps126 rfl rfl ?_
 intro w0 F
 have hn1:=ag.aX B a 5
 have hn2:=ag.aX B (a+5) 5
 have hn3:=ag.aX B (a+10) 4
 obtain⟨he1,he2,he3,he4,he5,he6,he7,he8⟩:=ab.Cs B a
 have hNN:ab.cu B a=ab.hL B a+ab.hD B a:=ab.vj B a
 have hAA:ab.dG B a=a+14+3*ab.hC B a:=ab.vA B a
 refine rT TT 11 rfl<|aQ (tA b p cap B R hR a sh hl ha) V.yc rfl (aJ .nil) rfl ?_
 rintro _ _ ⟨rfl,rfl⟩
 refine(Qc) ?_
 refine av rfl (fun h32=>?_) (fun h32=>?_)
 ·refine(QJ) ?_
  obtain rfl:o=.error 2:=ho.symm.trans (ab.tD omg)
  exact af (eY rfl rfl rfl) ⟨rfl,rfl⟩ (sub (.cons ar .nil) bg)
 ·refine(Qb) ?_
  refine aQ (jk b p cap B R hR a sh 5 hl hB omg omg) V.lO rfl (aJ .nil) rfl ?_
  rintro _ _ ⟨rfl,rfl⟩
  refine(Qg) ?_
  refine aQ (jk b p cap B R hR (a+5) sh 5 hl hB omg omg) V.lO rfl (aJ .nil) rfl ?_
  rintro _ _ ⟨rfl,rfl⟩
  refine(Qg) ?_
  refine aQ (jk b p cap B R hR (a+10) sh 4 hl hB omg omg) V.lO rfl (aJ .nil) rfl ?_
  rintro _ _ ⟨rfl,rfl⟩
  refine jC TT 20 rfl omg ?_
  rcases(ab.UC (ab.hL B a≤286) (ab.hD B a≤30)) with⟨hq1,hq2⟩|⟨hq1,hq2⟩|hq1
  ·refine(Q5) ?_
   have h14:a+14≤8*B.length:=omg
   rw[show ag.aG B a 5+257=(ab.hL B a:Int) from by omega,show ag.aG B (a+5) 5+1=(ab.hD B a:Int) from by omega,show ag.aG B (a+10) 4+4=(ab.hC B a:Int) from by omega]
   refine(Q5) ?_
   refine(Qo) ?_
   refine(Q9) ?_
   refine(Q0) ?_
   refine(Qo) ?_
   refine(Qe) ?_
   refine cg (I3) ab.kx V.cy V.z3 rfl rfl rfl rfl rfl rfl ?_
   intro r4
   refine(Q6) ?_
   refine mL 19 19 (I3) rfl rfl V.cy V.z3 rfl rfl rfl rfl omg omg rfl rfl ?_
   intro yF
   refine(Qg) ?_
   rw[show List.replicate 19 I3.d=ab.gG B (a+14) 0 from(ab.z8 B (a+14)).symm]
   refine cF (fun(k:Nat)=>[(0,.pointer (soz b)),(5,.int .i64 (ab.hL B a:Int)),(7,.int .i64 (ab.hD B a:Int)),(9,.int .i64 (ab.hC B a:Int)),(11,.slice (soz r4) 19 19),(12,.slice (soz yF) 19 19),(13,.int .i64 (k:Int))]) (fun(k:Nat)=>Row I3 (soz yF) 19 19 (ab.gG B (a+14) k)::Row I3 (soz r4) 19 19 ab.kx::ai b 151 [.slice p B.length cap,.int .i64 ((a+14+3*k):Int),.bool false,.bool sh]::R::F) (fun(k:Nat)=>k≤ab.hC B a∧a+14+3*k≤8*B.length) (fun(k:Nat)=>ab.hC B a-k) (i1 (0) ?_ (fF (bb ln)) (sub (jm .nil) aj)) ?_
   ·exact⟨Nat.zero_le _,omg⟩
   intro k
   rintro⟨hk,hk2⟩
   refine(nC) ?_
   refine av rfl (fun h64=>?_) (fun h64=>?_)
   ·refine(Q4) ?_
    rcases(Nat.lt_or_ge (8*B.length) ((a+14+3*k)+3)) with hx|hx
    ·refine(Q3) ?_
     refine aQ (qb b p cap B R hR (a+14+3*k) sh 3 hl hB omg omg omg) V.lO rfl (.cons aL (.cons aL .nil)) rfl ?_
     rintro _ _ ⟨rfl,rfl⟩
     refine rO TT 29 rfl ?_
     obtain rfl:o=.error 2:=ho.symm.trans (ab.AW h14 ⟨hq1,hq2⟩ omg)
     exact af (eY rfl rfl rfl) ⟨rfl,rfl⟩ (sub (.cons ar .nil) iW)
    ·refine(Q3) ?_
     refine aQ (jk b p cap B R hR (a+14+3*k) sh 3 hl hB omg omg) V.lO rfl (.cons aL (.cons aL .nil)) rfl ?_
     rintro _ _ ⟨rfl,rfl⟩
     refine(rZ) ?_
     have hoo:0≤I3.g ab.kx (k:Int)∧I3.g ab.kx (k:Int)<19:=ab.D1 (k:=k) omg
     refine(Q4)<|(Vi)<|(Q8) ?_
     refine oV (xI V.cy (own dz))<|cC (mK (c:=(I3)) (_) V.s3 rfl rfl rfl (by exact xr) omg omg rfl rfl)<|(QP) ?_
     rw[show(ab.gG B (a+14) k).set (I3.g ab.kx (k:Int)).toNat (ag.aG B (a+14+3*k) 3)=ab.gG B (a+14) (k+1) from(ab.BZ B (a+14) k).symm]
     refine j1 (k+1) ?_ (fF (bb ln)) (sub (.cons aL (.cons aL (aJ .nil))) aj)
     exact⟨⟨omg,omg⟩,omg⟩
   ·refine(Qb) ?_
    rcases(Classical.em (ae.bp (ab.bX B a)=0)) with hy|hy
    ·refine(Qa) ?_
     have hkC:k=ab.hC B a:=omg
     rw[show ab.gG B (a+14) k=ab.bX B a from by rw[hkC];exact(ab.qZ B a).symm,show((a:Int)+14+3*(k:Int))=((ab.dG B a:Nat):Int) from by omega]
     have hta:ab.dG B a≤8*B.length:=omg
     refine(Q5) ?_
     refine aQ (qh (soz yF) 19 19 (ab.bX B a) (Row I3 (soz yF) 19 19 (ab.bX B a)) (ab.fc B a).symm (fun _ _ hh=>ni (ab.fc B a).symm hh) hy) V.pP rfl (an .nil) rfl ?_
     rintro _ _ ⟨bc,rfl,rfl⟩
     refine(Qj)<|(sd)<|(Qy)<|(ZK) ?_
     refine tZ (fun(l:List Int) (f:Nat) (x:Nat) (q:Option Addr) (c:Nat)=>[(0,.pointer (soz b)),(5,.int .i64 (ab.hL B a:Int)),(7,.int .i64 (ab.hD B a:Int)),(16,.pointer (soz bc)),(18,.slice q l.length c)]) (fun(l:List Int) (f:Nat) (x:Nat) (q:Option Addr) (c:Nat)=>Row I3 q l.length c l::RC bc (ab.bX B a)::ai b 151 [.slice p B.length cap,.int .i64 (x:Int),.bool false,.bool sh]::R::F) (fun(l:List Int) (f:Nat) (x:Nat) (q:Option Addr) (c:Nat)=>ab.fg B (ab.bX B a) (ab.cu B a) (ab.cu B a) [] (ab.dG B a)=ab.fg B (ab.bX B a) (ab.cu B a) f l x∧(ab.cu B a)≤f+l.length∧l.length≤(ab.cu B a)∧x≤8*B.length) (fun(l:List Int) (f:Nat) (x:Nat) (q:Option Addr) (c:Nat)=>(ab.cu B a)-l.length) (i5 ([]) ((ab.cu B a)) ((ab.dG B a)) (none) (0) ?_ (bb ln) (sub (aJ (.cons aL (.cons aL .nil))) dC)) ?_
     ·exact⟨rfl,Nat.le_add_right _ _,Nat.zero_le _,hta⟩
     intro l f x q c
     rintro⟨hg,hf,hlt,hx⟩
     refine EK TT 11 rfl omg ?_
     refine av rfl (fun h93=>?_) (fun h93=>?_)
     ·refine(Q3) ?_
      rcases(ab.qL (B:=B) (ls:=(ab.bX B a)) (a:=x) hy (by rw[ab.fc];decide)) with⟨e,hs⟩|⟨sy,x2,hs,hy0,hy1,hx1,hx2⟩
      ·refine(Q4) ?_
       refine aQ (BV bc (ab.bX B a) b p cap B R hR sh x hy hl hB hx hs) V.xQ rfl (.cons ar (.cons ar (.cons ar .nil))) rfl ?_
       rintro _ _ ⟨rfl,n9,sh9,rfl⟩
       refine(Qj) ?_
       refine oV (bQ (bO rfl rfl) (ab.pY hs))<|(rZ) ?_
       obtain rfl:o=.error e:=ho.symm.trans (ab.jR h14 ⟨hq1,hq2⟩ hta hy (hg.trans (ab.jy omg hf (ab.rJ hs))))
       exact af (eY rfl rfl rfl) ⟨rfl,rfl⟩ (sub (.cons aL .nil) iW)
      ·refine(Q4) ?_
       refine aQ (Cm bc (ab.bX B a) b p cap B R hR sh x hy hl hB hx hs) V.xQ rfl (.cons ar (.cons ar (.cons ar .nil))) rfl ?_
       rintro _ _ ⟨rfl,rfl⟩
       refine(Qj)<|(sd)<|(Qd) ?_
       rw[ab.fc] at hy1
       refine(Qb) ?_
       refine av rfl (fun h104=>?_) (fun h104=>?_)
       ·refine(Q4) ?_
        refine cg (I3) [sy] V.cy V.z3 rfl rfl rfl rfl rfl rfl ?_
        intro u4
        refine ei (c:=(I3)) V.cy V.z3 rfl rfl rfl rfl gW (own ay) omg rfl ?_
        intro p108 c108
        refine(Q1) ?_
        have hl6:l.length<ab.cu B a:=omg
        (have hr:=ab.Hu (B:=B) (l:=l) (s:=sy) (a:=x2) omg;have hln:(l++[sy]).length=l.length+1:=(by simp);have hst:=ab.hJ hs hr;rw[show List.replicate (1:Int).toNat sy=[sy] from rfl] at hst;rw[show l.length+1=(l++[sy]).length from hln.symm];refine j5 (l++[sy]) (f-1) (x2) (_) (_) ?_ (bb ln) (sub (an (.cons ar (.cons ar (.cons ar .nil)))) bg);exact⟨⟨hg.trans (ab.l5 hl6 hf hst omg),omg,omg,hx2⟩,omg⟩)
       ·refine(Q5) ?_
        rcases(ab.sy4 (s:=sy) l omg) with⟨hs16,hl0⟩|⟨hs16,hl0⟩|hs16|hs16
        ·refine(lW) ?_
         refine(QD) ?_
         refine(Qc) ?_
         refine(Q0) ?_
         refine(Qo) ?_
         refine(Qg) ?_
         refine(QA) ?_
         refine(Qn) ?_
         refine(QA) ?_
         refine(Q6) ?_
         rcases(Nat.lt_or_ge (8*B.length) (x2+ab.dE sy)) with hxr|hxr
         ·refine(Qa) ?_
          have hrp:=ab.pq (s:=sy)
          have hnx:=ag.aX B x2 (ab.dE sy)
          have hpx:=ag.iQ (show ab.dE sy≤24 by omega)
          have hw:I3.g l 0=0∨True:=.inr trivial
          rw[show((21:Nat),Value.int .i64 0)=(21,.int .i64 (ab.ib sy l)) from by rw[ab.wq hs16,List.eq_nil_of_length_eq_zero hl0];rfl]
          rw[show((22:Nat),Value.int .i64 2)=(22,.int .i64 (ab.dE sy:Int)) from by rw[ab.wP hs16];rfl]
          rw[show((23:Nat),Value.int .i64 3)=(23,.int .i64 (ab.iu sy)) from by rw[ab.qp omg]]
          refine(Q3)<|(N8) ?_
          rintro _ _ ⟨rfl,rfl⟩
          refine rO TT 28 rfl ?_
          obtain rfl:o=.error 2:=ho.symm.trans (ab.jR h14 ⟨hq1,hq2⟩ hta hy (hg.trans (ab.jy omg hf (ab.kD hs (ab.kB omg hxr)))))
          exact af (eY rfl rfl rfl) ⟨rfl,rfl⟩ (sub (.cons ar .nil) iW)
         ·refine(Qa) ?_
          have hrp:=ab.pq (s:=sy)
          have hnx:=ag.aX B x2 (ab.dE sy)
          have hpx:=ag.iQ (show ab.dE sy≤24 by omega)
          have hw:I3.g l 0=0∨True:=.inr trivial
          rw[show((21:Nat),Value.int .i64 0)=(21,.int .i64 (ab.ib sy l)) from by rw[ab.wq hs16,List.eq_nil_of_length_eq_zero hl0];rfl]
          rw[show((22:Nat),Value.int .i64 2)=(22,.int .i64 (ab.dE sy:Int)) from by rw[ab.wP hs16];rfl]
          rw[show((23:Nat),Value.int .i64 3)=(23,.int .i64 (ab.iu sy)) from by rw[ab.qp omg]]
          refine(Q3)<|(W6) ?_
          rintro _ _ ⟨rfl,rfl⟩
          refine rO TT 21 rfl<|(QD)<|(Qk)<|(QD) ?_
          refine rO TT 29 rfl ?_
          obtain rfl:o=.error 4:=ho.symm.trans (by exact(ab.jR h14 ⟨hq1,hq2⟩ hta hy (hg.trans (ab.jy omg hf (ab.kD hs (ab.Bt hs16 (List.eq_nil_of_length_eq_zero hl0) omg))))))
          exact af (eY rfl rfl rfl) ⟨rfl,rfl⟩ (sub (.cons ar .nil) iW)
        ·refine(lW) ?_
         refine(QD) ?_
         refine(Qc) ?_
         refine(Q0) ?_
         refine(Qp) ?_
         refine(QU) ?_
         refine oV (xI V.cy (own fX)) ?_
         refine oV (xL V.s3 (own fX)) ?_
         refine(Qd) ?_
         refine(QA) ?_
         refine(Qn) ?_
         refine(QA) ?_
         refine(Q6) ?_
         rcases(Nat.lt_or_ge (8*B.length) (x2+ab.dE sy)) with hxr|hxr
         ·refine(Qa) ?_
          have hrp:=ab.pq (s:=sy)
          have hnx:=ag.aX B x2 (ab.dE sy)
          have hpx:=ag.iQ (show ab.dE sy≤24 by omega)
          have hw:I3.g l ((l.length:Int)-1)=l.getD (l.length-1) 0:=gE _ omg
          rw[show((21:Nat),Value.int .i64 (I3.g l ((l.length:Int)-1)))=(21,.int .i64 (ab.ib sy l)) from by rw[ab.wq hs16,hw]]
          rw[show((22:Nat),Value.int .i64 2)=(22,.int .i64 (ab.dE sy:Int)) from by rw[ab.wP hs16];rfl]
          rw[show((23:Nat),Value.int .i64 3)=(23,.int .i64 (ab.iu sy)) from by rw[ab.qp omg]]
          refine(Q3)<|(N8) ?_
          rintro _ _ ⟨rfl,rfl⟩
          refine rO TT 28 rfl ?_
          obtain rfl:o=.error 2:=ho.symm.trans (ab.jR h14 ⟨hq1,hq2⟩ hta hy (hg.trans (ab.jy omg hf (ab.kD hs (ab.kB omg hxr)))))
          exact af (eY rfl rfl rfl) ⟨rfl,rfl⟩ (sub (.cons ar .nil) iW)
         ·refine(Qa) ?_
          have hrp:=ab.pq (s:=sy)
          have hnx:=ag.aX B x2 (ab.dE sy)
          have hpx:=ag.iQ (show ab.dE sy≤24 by omega)
          have hw:I3.g l ((l.length:Int)-1)=l.getD (l.length-1) 0:=gE _ omg
          rw[show((21:Nat),Value.int .i64 (I3.g l ((l.length:Int)-1)))=(21,.int .i64 (ab.ib sy l)) from by rw[ab.wq hs16,hw]]
          rw[show((22:Nat),Value.int .i64 2)=(22,.int .i64 (ab.dE sy:Int)) from by rw[ab.wP hs16];rfl]
          rw[show((23:Nat),Value.int .i64 3)=(23,.int .i64 (ab.iu sy)) from by rw[ab.qp omg]]
          refine(Q3)<|(W6) ?_
          rintro _ _ ⟨rfl,rfl⟩
          refine(rZ) ?_
          rcases(Int.lt_or_le ((ab.cu B a):Int) ((l.length:Int)+ab.iu sy+(ag.aG B x2 (ab.dE sy)))) with hbg|hbg
          ·refine(Q4)<|(QD)<|(Qk)<|(QA)<|(zw)<|(Q0)<|(Qp)<|(rZ) ?_
           obtain rfl:o=.error 4:=ho.symm.trans (by(obtain⟨nn,hnn⟩:∃nn:Nat,ab.iu sy+(ag.aG B x2 (ab.dE sy))=(nn:Int):=⟨_,(Int.toNat_of_nonneg omg).symm⟩;exact(ab.jR h14 ⟨hq1,hq2⟩ hta hy (hg.trans (ab.oJ omg hf (ab.hJ hs (ab.oe (B:=B) (l:=l) (s:=sy) (a:=x2) omg hxr omg hnn)) (by rw[List.length_append,List.length_replicate,Int.toNat_natCast];omega))))))
           exact af (eY rfl rfl rfl) ⟨rfl,rfl⟩ (sub (.cons ar .nil) iW)
          ·refine(Q4)<|(QD)<|(Qk)<|(QA)<|(zw)<|(Ai)<|(Qd) ?_
           obtain⟨nn,hnn⟩:∃nn:Nat,ab.iu sy+(ag.aG B x2 (ab.dE sy))=(nn:Int):=⟨_,(Int.toNat_of_nonneg omg).symm⟩
           have hr:=ab.oe (B:=B) (l:=l) (s:=sy) (a:=x2) omg hxr omg hnn
           refine(Qb) ?_
           rw[show Row I3 q l.length c l=Row I3 q (l.length+0) c (l++List.replicate 0 (ab.ib sy l)) from by rw[List.replicate_zero,List.append_nil,Nat.add_zero]]
           rw[show((18:Nat),Value.slice q l.length c)=(18,.slice q (l.length+0) c) from rfl]
           refine dP (fun(i:Nat) (q5:Option Addr) (c5:Nat)=>[(0,.pointer (soz b)),(5,.int .i64 (ab.hL B a:Int)),(7,.int .i64 (ab.hD B a:Int)),(16,.pointer (soz bc)),(18,.slice q5 (l.length+i) c5),(21,.int .i64 (ab.ib sy l)),(23,.int .i64 (ab.iu sy)),(24,.int .i64 (ag.aG B x2 (ab.dE sy))),(26,.int .i64 (i:Int))]) (fun(i:Nat) (q5:Option Addr) (c5:Nat)=>Row I3 q5 (l.length+i) c5 (l++List.replicate i (ab.ib sy l))::RC bc (ab.bX B a)::ai b 151 [.slice p B.length cap,.int .i64 ((x2+ab.dE sy):Int),.bool false,.bool sh]::R::F) (fun(i:Nat) (q5:Option Addr) (c5:Nat)=>i≤nn) (fun(i:Nat) (q5:Option Addr) (c5:Nat)=>nn-i) (i3 (0) (q) (c) ?_ (cK (bb ln)) (sub (.cons cB (.cons aL (aJ .nil))) aj)) ?_
           ·exact Nat.zero_le _
           intro i q5 c5
           rintro hi
           refine EK TT 10 rfl omg ?_
           refine av rfl (fun h157=>?_) (fun h157=>?_)
           ·refine(Qr)<|(Sj) ?_
            intro b162
            refine(uK) ?_
            intro p163 c163
            refine(QU) ?_
            rw[List.append_assoc,←List.replicate_succ',show l.length+i+1=l.length+(i+1) from rfl]
            refine j3 (i+1) (_) (_) ?_ (cK (bb ln)) (sub (an (.cons ar (.cons ar (.cons ar .nil)))) bg)
            exact⟨omg,omg⟩
           ·refine(Qb) ?_
            have hl6:l.length<ab.cu B a:=omg
            (obtain rfl:i=nn:=omg;have hln:(l++List.replicate i (ab.ib sy l)).length=l.length+i:=(by simp);have hst:=ab.hJ hs hr;rw[Int.toNat_natCast] at hst;rw[show l.length+i=(l++List.replicate i (ab.ib sy l)).length from hln.symm];refine j5 (l++List.replicate i (ab.ib sy l)) (f-1) ((x2+ab.dE sy)) (_) (_) ?_ (bb ln) (sub (jm .nil) aj);exact⟨⟨hg.trans (ab.l5 hl6 hf hst omg),omg,omg,hxr⟩,omg⟩)
        ·refine(lW) ?_
         refine(QA) ?_
         refine(QE) ?_
         refine(QD) ?_
         refine(Qj) ?_
         refine(QA) ?_
         refine(Q6) ?_
         rcases(Nat.lt_or_ge (8*B.length) (x2+ab.dE sy)) with hxr|hxr
         ·refine(Qa) ?_
          have hrp:=ab.pq (s:=sy)
          have hnx:=ag.aX B x2 (ab.dE sy)
          have hpx:=ag.iQ (show ab.dE sy≤24 by omega)
          rw[show((21:Nat),Value.int .i64 0)=(21,.int .i64 (ab.ib sy l)) from by rw[ab.zI omg]]
          rw[show((22:Nat),Value.int .i64 3)=(22,.int .i64 (ab.dE sy:Int)) from by rw[ab.IS hs16];rfl]
          rw[show((23:Nat),Value.int .i64 3)=(23,.int .i64 (ab.iu sy)) from by rw[ab.qp omg]]
          refine(Q3)<|(N8) ?_
          rintro _ _ ⟨rfl,rfl⟩
          refine rO TT 28 rfl ?_
          obtain rfl:o=.error 2:=ho.symm.trans (ab.jR h14 ⟨hq1,hq2⟩ hta hy (hg.trans (ab.jy omg hf (ab.kD hs (ab.kB omg hxr)))))
          exact af (eY rfl rfl rfl) ⟨rfl,rfl⟩ (sub (.cons ar .nil) iW)
         ·refine(Qa) ?_
          have hrp:=ab.pq (s:=sy)
          have hnx:=ag.aX B x2 (ab.dE sy)
          have hpx:=ag.iQ (show ab.dE sy≤24 by omega)
          rw[show((21:Nat),Value.int .i64 0)=(21,.int .i64 (ab.ib sy l)) from by rw[ab.zI omg]]
          rw[show((22:Nat),Value.int .i64 3)=(22,.int .i64 (ab.dE sy:Int)) from by rw[ab.IS hs16];rfl]
          rw[show((23:Nat),Value.int .i64 3)=(23,.int .i64 (ab.iu sy)) from by rw[ab.qp omg]]
          refine(Q3)<|(W6) ?_
          rintro _ _ ⟨rfl,rfl⟩
          refine(rZ) ?_
          rcases(Int.lt_or_le ((ab.cu B a):Int) ((l.length:Int)+ab.iu sy+(ag.aG B x2 (ab.dE sy)))) with hbg|hbg
          ·refine(Q4)<|(QA)<|(D4)<|(Q0)<|(Qp)<|(rZ) ?_
           obtain rfl:o=.error 4:=ho.symm.trans (by(obtain⟨nn,hnn⟩:∃nn:Nat,ab.iu sy+(ag.aG B x2 (ab.dE sy))=(nn:Int):=⟨_,(Int.toNat_of_nonneg omg).symm⟩;exact(ab.jR h14 ⟨hq1,hq2⟩ hta hy (hg.trans (ab.oJ omg hf (ab.hJ hs (ab.oe (B:=B) (l:=l) (s:=sy) (a:=x2) omg hxr omg hnn)) (by rw[List.length_append,List.length_replicate,Int.toNat_natCast];omega))))))
           exact af (eY rfl rfl rfl) ⟨rfl,rfl⟩ (sub (.cons ar .nil) iW)
          ·refine(Q4)<|(QA)<|(D4)<|(Ai)<|(Qd) ?_
           obtain⟨nn,hnn⟩:∃nn:Nat,ab.iu sy+(ag.aG B x2 (ab.dE sy))=(nn:Int):=⟨_,(Int.toNat_of_nonneg omg).symm⟩
           have hr:=ab.oe (B:=B) (l:=l) (s:=sy) (a:=x2) omg hxr omg hnn
           refine(Qb) ?_
           rw[show Row I3 q l.length c l=Row I3 q (l.length+0) c (l++List.replicate 0 (ab.ib sy l)) from by rw[List.replicate_zero,List.append_nil,Nat.add_zero]]
           rw[show((18:Nat),Value.slice q l.length c)=(18,.slice q (l.length+0) c) from rfl]
           refine dP (fun(i:Nat) (q5:Option Addr) (c5:Nat)=>[(0,.pointer (soz b)),(5,.int .i64 (ab.hL B a:Int)),(7,.int .i64 (ab.hD B a:Int)),(16,.pointer (soz bc)),(18,.slice q5 (l.length+i) c5),(21,.int .i64 (ab.ib sy l)),(23,.int .i64 (ab.iu sy)),(24,.int .i64 (ag.aG B x2 (ab.dE sy))),(26,.int .i64 (i:Int))]) (fun(i:Nat) (q5:Option Addr) (c5:Nat)=>Row I3 q5 (l.length+i) c5 (l++List.replicate i (ab.ib sy l))::RC bc (ab.bX B a)::ai b 151 [.slice p B.length cap,.int .i64 ((x2+ab.dE sy):Int),.bool false,.bool sh]::R::F) (fun(i:Nat) (q5:Option Addr) (c5:Nat)=>i≤nn) (fun(i:Nat) (q5:Option Addr) (c5:Nat)=>nn-i) (i3 (0) (q) (c) ?_ (cK (bb ln)) (sub (.cons cB (.cons aL (aJ .nil))) aj)) ?_
           ·exact Nat.zero_le _
           intro i q5 c5
           rintro hi
           refine EK TT 10 rfl omg ?_
           refine av rfl (fun h157=>?_) (fun h157=>?_)
           ·refine(Qr)<|(Sj) ?_
            intro b162
            refine(uK) ?_
            intro p163 c163
            refine(QU) ?_
            rw[List.append_assoc,←List.replicate_succ',show l.length+i+1=l.length+(i+1) from rfl]
            refine j3 (i+1) (_) (_) ?_ (cK (bb ln)) (sub (an (.cons ar (.cons ar (.cons ar .nil)))) bg)
            exact⟨omg,omg⟩
           ·refine(Qb) ?_
            have hl6:l.length<ab.cu B a:=omg
            (obtain rfl:i=nn:=omg;have hln:(l++List.replicate i (ab.ib sy l)).length=l.length+i:=(by simp);have hst:=ab.hJ hs hr;rw[Int.toNat_natCast] at hst;rw[show l.length+i=(l++List.replicate i (ab.ib sy l)).length from hln.symm];refine j5 (l++List.replicate i (ab.ib sy l)) (f-1) ((x2+ab.dE sy)) (_) (_) ?_ (bb ln) (sub (jm .nil) aj);exact⟨⟨hg.trans (ab.l5 hl6 hf hst omg),omg,omg,hxr⟩,omg⟩)
        ·refine(lW)<|(QA)<|(QE)<|(QA)<|(Qn)<|(QD)<|(Qe) ?_
         rcases(Nat.lt_or_ge (8*B.length) (x2+ab.dE sy)) with hxr|hxr
         ·refine(Qa) ?_
          have hrp:=ab.pq (s:=sy)
          have hnx:=ag.aX B x2 (ab.dE sy)
          have hpx:=ag.iQ (show ab.dE sy≤24 by omega)
          rw[show((21:Nat),Value.int .i64 0)=(21,.int .i64 (ab.ib sy l)) from by rw[ab.zI omg]]
          rw[show((22:Nat),Value.int .i64 7)=(22,.int .i64 (ab.dE sy:Int)) from by rw[ab.JF hs16];rfl]
          rw[show((23:Nat),Value.int .i64 11)=(23,.int .i64 (ab.iu sy)) from by rw[ab.Ib hs16]]
          refine(Q3)<|(N8) ?_
          rintro _ _ ⟨rfl,rfl⟩
          refine rO TT 28 rfl ?_
          obtain rfl:o=.error 2:=ho.symm.trans (ab.jR h14 ⟨hq1,hq2⟩ hta hy (hg.trans (ab.jy omg hf (ab.kD hs (ab.kB omg hxr)))))
          exact af (eY rfl rfl rfl) ⟨rfl,rfl⟩ (sub (.cons ar .nil) iW)
         ·refine(Qa) ?_
          have hrp:=ab.pq (s:=sy)
          have hnx:=ag.aX B x2 (ab.dE sy)
          have hpx:=ag.iQ (show ab.dE sy≤24 by omega)
          rw[show((21:Nat),Value.int .i64 0)=(21,.int .i64 (ab.ib sy l)) from by rw[ab.zI omg]]
          rw[show((22:Nat),Value.int .i64 7)=(22,.int .i64 (ab.dE sy:Int)) from by rw[ab.JF hs16];rfl]
          rw[show((23:Nat),Value.int .i64 11)=(23,.int .i64 (ab.iu sy)) from by rw[ab.Ib hs16]]
          refine(Q3) ?_
          refine oC (jk b p cap B R hR x2 sh (ab.dE sy) hl hB omg omg) V.lO rfl (.cons ar (.cons ar .nil)) rfl<|(rZ) ?_
          rcases(Int.lt_or_le ((ab.cu B a):Int) ((l.length:Int)+ab.iu sy+(ag.aG B x2 (ab.dE sy)))) with hbg|hbg
          ·refine(Q4)<|(QA)<|(D4)<|(Q0)<|(Qp)<|(rZ) ?_
           obtain rfl:o=.error 4:=ho.symm.trans (by(obtain⟨nn,hnn⟩:∃nn:Nat,ab.iu sy+(ag.aG B x2 (ab.dE sy))=(nn:Int):=⟨_,(Int.toNat_of_nonneg omg).symm⟩;exact(ab.jR h14 ⟨hq1,hq2⟩ hta hy (hg.trans (ab.oJ omg hf (ab.hJ hs (ab.oe (B:=B) (l:=l) (s:=sy) (a:=x2) omg hxr omg hnn)) (by rw[List.length_append,List.length_replicate,Int.toNat_natCast];omega))))))
           exact af (eY rfl rfl rfl) ⟨rfl,rfl⟩ (sub (.cons ar .nil) iW)
          ·refine(Q4)<|(QA)<|(D4)<|(Ai)<|(Qd) ?_
           obtain⟨nn,hnn⟩:∃nn:Nat,ab.iu sy+(ag.aG B x2 (ab.dE sy))=(nn:Int):=⟨_,(Int.toNat_of_nonneg omg).symm⟩
           have hr:=ab.oe (B:=B) (l:=l) (s:=sy) (a:=x2) omg hxr omg hnn
           refine(Qb) ?_
           rw[show Row I3 q l.length c l=Row I3 q (l.length+0) c (l++List.replicate 0 (ab.ib sy l)) from by rw[List.replicate_zero,List.append_nil,Nat.add_zero]]
           rw[show((18:Nat),Value.slice q l.length c)=(18,.slice q (l.length+0) c) from rfl]
           refine dP (fun(i:Nat) (q5:Option Addr) (c5:Nat)=>[(0,.pointer (soz b)),(5,.int .i64 (ab.hL B a:Int)),(7,.int .i64 (ab.hD B a:Int)),(16,.pointer (soz bc)),(18,.slice q5 (l.length+i) c5),(21,.int .i64 (ab.ib sy l)),(23,.int .i64 (ab.iu sy)),(24,.int .i64 (ag.aG B x2 (ab.dE sy))),(26,.int .i64 (i:Int))]) (fun(i:Nat) (q5:Option Addr) (c5:Nat)=>Row I3 q5 (l.length+i) c5 (l++List.replicate i (ab.ib sy l))::RC bc (ab.bX B a)::ai b 151 [.slice p B.length cap,.int .i64 ((x2+ab.dE sy):Int),.bool false,.bool sh]::R::F) (fun(i:Nat) (q5:Option Addr) (c5:Nat)=>i≤nn) (fun(i:Nat) (q5:Option Addr) (c5:Nat)=>nn-i) (i3 (0) (q) (c) ?_ (cK (bb ln)) (sub (.cons cB (.cons aL (aJ .nil))) aj)) ?_
           ·exact Nat.zero_le _
           intro i q5 c5
           rintro hi
           refine EK TT 10 rfl omg ?_
           refine av rfl (fun h157=>?_) (fun h157=>?_)
           ·refine(Qr)<|(Sj) ?_
            intro b162
            refine(uK) ?_
            intro p163 c163
            refine(QU) ?_
            rw[List.append_assoc,←List.replicate_succ',show l.length+i+1=l.length+(i+1) from rfl]
            refine j3 (i+1) (_) (_) ?_ (cK (bb ln)) (sub (an (.cons ar (.cons ar (.cons ar .nil)))) bg)
            exact⟨omg,omg⟩
           ·refine(Qb) ?_
            have hl6:l.length<ab.cu B a:=omg
            (obtain rfl:i=nn:=omg;have hln:(l++List.replicate i (ab.ib sy l)).length=l.length+i:=(by simp);have hst:=ab.hJ hs hr;rw[Int.toNat_natCast] at hst;rw[show l.length+i=(l++List.replicate i (ab.ib sy l)).length from hln.symm];refine j5 (l++List.replicate i (ab.ib sy l)) (f-1) ((x2+ab.dE sy)) (_) (_) ?_ (bb ln) (sub (jm .nil) aj);exact⟨⟨hg.trans (ab.l5 hl6 hf hst omg),omg,omg,hxr⟩,omg⟩)
     ·refine(Qr) ?_
      have hlt2:l.length=ab.cu B a:=omg
      have hz:=hg.trans (ab.mG (B:=B) (c:=ab.bX B a) (f:=f) (a:=x) (show ab.cu B a≤l.length by omega))
      refine wF (p:=q) (n:=l.length) (cap:=c) (l:=l) (c:=I3) ay fun hcap=>?_
      refine(Q5) ?_
      refine oV (xI V.cy (own ay)) ?_
      refine oV (xL V.s3 (own ay)) ?_
      refine(Qc) ?_
      refine av rfl (fun h167=>?_) (fun h167=>?_)
      ·refine(QJ) ?_
       obtain rfl:o=.error 4:=ho.symm.trans (ab.nw h14 ⟨hq1,hq2⟩ hta hy hz (.inr (.inr (show I3.g l 256=0 by omega))))
       exact af (eY rfl rfl rfl) ⟨rfl,rfl⟩ (sub (.cons cB .nil) iW)
      ·refine(Q5) ?_
       rcases(Classical.em (ae.bp (l.take (ab.hL B a))=0)) with hc1|hc1
       ·refine(Q4)<|(Q7n) ?_
        refine aQ (qh q (ab.hL B a) c (l.take (ab.hL B a)) (Row I3 q l.length c l) (by rw[List.length_take];omega) (fun _ _ hh=>mI rfl omg hh) hc1) V.pP rfl (an .nil) rfl ?_
        rintro _ _ ⟨x27,rfl,rfl⟩
        refine(Qd) ?_
        rcases(Classical.em (ae.bp (l.drop (ab.hL B a))=0)) with hc2|hc2
        ·refine(Q4)<|(Mx) ?_
         refine aQ (qh (cM q (ab.hL B a) c 1) (l.length-(ab.hL B a)) (c-(ab.hL B a)) (l.drop (ab.hL B a)) (Row I3 q l.length c l) (by rw[List.length_drop]) (fun _ _ hh=>mB rfl omg hcap hh) hc2) V.pP rfl (.cons ar .nil) rfl ?_
         rintro _ _ ⟨x28,rfl,rfl⟩
         refine(Qj)<|(sd)<|(Qm)<|(sd)<|(QO) ?_
         obtain rfl:=ho.symm.trans (ab.AA h14 ⟨hq1,hq2⟩ hta hy hz hc1 hc2 (show I3.g l 256≠0 by omega))
         exact af (eY rfl rfl rfl) ⟨x27,x28,sh,rfl,rfl⟩ (sub (.cons gW (.cons gW (.cons aL (an .nil)))) dC)
        ·refine(Q4)<|(Mx) ?_
         refine oC (xo (cM q (ab.hL B a) c 1) (l.length-(ab.hL B a)) (c-(ab.hL B a)) (l.drop (ab.hL B a)) (Row I3 q l.length c l) (by rw[List.length_drop]) (fun _ _ hh=>mB rfl omg hcap hh) hc2) V.pP rfl (.cons ar .nil) rfl<|(Qj)<|(sd)<|(Qm) ?_
         refine oV (bQ (bO rfl rfl) hc2)<|(Qq) ?_
         obtain rfl:o=.error 4:=ho.symm.trans (by exact(ab.nw h14 ⟨hq1,hq2⟩ hta hy hz (.inr (.inl hc2))))
         exact af (eY rfl rfl rfl) ⟨rfl,rfl⟩ (sub (.cons gW .nil) gF)
       ·refine(Q4)<|(Q7n) ?_
        refine oC (xo q (ab.hL B a) c (l.take (ab.hL B a)) (Row I3 q l.length c l) (by rw[List.length_take];omega) (fun _ _ hh=>mI rfl omg hh) hc1) V.pP rfl (an .nil) rfl<|(Qd) ?_
        rcases(Classical.em (ae.bp (l.drop (ab.hL B a))=0)) with hc2|hc2
        ·refine(Q4)<|(Mx) ?_
         refine aQ (qh (cM q (ab.hL B a) c 1) (l.length-(ab.hL B a)) (c-(ab.hL B a)) (l.drop (ab.hL B a)) (Row I3 q l.length c l) (by rw[List.length_drop]) (fun _ _ hh=>mB rfl omg hcap hh) hc2) V.pP rfl (an .nil) rfl ?_
         rintro _ _ ⟨x28,rfl,rfl⟩
         refine(Qj) ?_
         refine oV (bQ (bO rfl rfl) hc1)<|(QO) ?_
         obtain rfl:o=.error 4:=ho.symm.trans (by exact(ab.nw h14 ⟨hq1,hq2⟩ hta hy hz (.inl hc1)))
         exact af (eY rfl rfl rfl) ⟨rfl,rfl⟩ (sub (.cons gW .nil) gF)
        ·refine(Q4)<|(Mx) ?_
         refine oC (xo (cM q (ab.hL B a) c 1) (l.length-(ab.hL B a)) (c-(ab.hL B a)) (l.drop (ab.hL B a)) (Row I3 q l.length c l) (by rw[List.length_drop]) (fun _ _ hh=>mB rfl omg hcap hh) hc2) V.pP rfl (an .nil) rfl<|(Qj) ?_
         refine oV (bQ (bO rfl rfl) hc1)<|(QO) ?_
         obtain rfl:o=.error 4:=ho.symm.trans (by exact(ab.nw h14 ⟨hq1,hq2⟩ hta hy hz (.inl hc1)))
         exact af (eY rfl rfl rfl) ⟨rfl,rfl⟩ (sub (.cons cB .nil) iW)
    ·refine(Qa) ?_
     have hkC:k=ab.hC B a:=omg
     rw[show ab.gG B (a+14) k=ab.bX B a from by rw[hkC];exact(ab.qZ B a).symm,show((a:Int)+14+3*(k:Int))=((ab.dG B a:Nat):Int) from by omega]
     have hta:ab.dG B a≤8*B.length:=omg
     refine(Q5) ?_
     refine oC (xo (soz yF) 19 19 (ab.bX B a) (Row I3 (soz yF) 19 19 (ab.bX B a)) (ab.fc B a).symm (fun _ _ hh=>ni (ab.fc B a).symm hh) hy) V.pP rfl (an .nil) rfl<|(Qj) ?_
     refine oV (bQ (bO rfl rfl) hy)<|(Qy) ?_
     obtain rfl:o=.error 4:=ho.symm.trans (ab.BD h14 ⟨hq1,hq2⟩ hta hy)
     exact af (eY rfl rfl rfl) ⟨rfl,rfl⟩ (sub (.cons cB .nil) iW)
  ·refine(Q5) ?_
   have h14:a+14≤8*B.length:=omg
   rw[show ag.aG B a 5+257=(ab.hL B a:Int) from by omega,show ag.aG B (a+5) 5+1=(ab.hD B a:Int) from by omega,show ag.aG B (a+10) 4+4=(ab.hC B a:Int) from by omega]
   refine(Q5) ?_
   refine(Qo) ?_
   refine(Q9) ?_
   refine(Q0) ?_
   refine(Qp) ?_
   refine(Qq) ?_
   obtain rfl:o=.error 4:=ho.symm.trans (ab.tw h14 omg)
   exact af (eY rfl rfl rfl) ⟨rfl,rfl⟩ (sub (.cons ar .nil) bg)
  ·refine(Q5) ?_
   have h14:a+14≤8*B.length:=omg
   rw[show ag.aG B a 5+257=(ab.hL B a:Int) from by omega,show ag.aG B (a+5) 5+1=(ab.hD B a:Int) from by omega,show ag.aG B (a+10) 4+4=(ab.hC B a:Int) from by omega]
   refine(Q5)<|(Qp)<|(QO) ?_
   obtain rfl:o=.error 4:=ho.symm.trans (ab.tw h14 omg)
   exact af (eY rfl rfl rfl) ⟨rfl,rfl⟩ (sub (.cons ar .nil) bg)
end Go.Proofs.YtmaiakpjgomnpaaGreat
namespace Go.Proofs.YtmaiakpjgomnpaaGreat
open Go.Sl 
attribute [local irreducible] ae.bp ae.tk ae.ord ae.bV ae.words ae.cU ab.gG ab.bX ab.cu ab.dG ab.hL ab.hD ab.hC ab.fg ab.told ab.dO ab.jH ab.rep ab.eL ab.dQ ab.sym ab.cT ag.aG ab.eW ab.dk ab.one ab.eK ab.k7 ab.nZ ab.gH ab.ia ab.jT

def YI(p:Option Addr)(cap:Nat)(B:List Int)(R:ad)(hR:∀w0 h,R w0 h→aE U5 p B.length B w0 h)(hl:B.length<500000000)(hB:ag.aq B)(mo:Int)(hm1:mo<500000000)(q:List Int×Int×Int)(hq:ab.iU B mo q):aA Tryz.prog 88 [.slice p B.length cap,I6 mo] [R] (aF fun v G=>∃qq cq,v=.tuple #[.slice qq q.1.length cq,I6 q.2.1,I6 q.2.2]∧G=[Row U5 qq q.1.length cq q.1,R]):=by
 refine ao [(0,_),(1,_)] Tryz.func88 rfl Tryz.ntmps88 rfl rfl ?_
 intro w0 F
 refine rT TT 7 rfl ?_
 rcases(Int.lt_or_le mo 0) with hm0|hm0
 ·refine(Q4) ?_
  refine oV (bQ (dD rfl rfl) hm0)<|(Qy) ?_
  obtain rfl:=hq.oy (.inl ⟨hm0,rfl⟩)
  exact af (eY rfl rfl rfl) ⟨none,0,rfl,rfl⟩ (Sl.Sub.trans (bH (A:=Row U5 none 0 0 []) (fun w0=>Row.nil U5 w0 _)) (sub (aJ .nil) aj))
 ·refine(Q4) ?_
  refine(QL) ?_
  refine(Q1) ?_
  have hm:0≤mo∧mo<500000000:=⟨hm0,hm1⟩
  refine(Q5) ?_
  refine oV (cE V.MF V.WR rfl (cs:=[_,_,_,_]) rfl) ?_
  refine jg rfl (cs:=[_,_,_,_]) rfl rfl ?_
  intro gk
  refine(Q6) ?_
  refine cg (U5) [] V.bT V.z5 rfl rfl rfl rfl rfl rfl ?_
  intro b24
  refine(Q7) ?_
  refine bA (M:=ai gk 151 [.slice p B.length cap,I6 (ab.start.at_:Int),.bool false,.bool false]::R::Row U5 (soz b24) ab.start.out.length 0 ab.start.out::F) (sub (.cons ar (.cons ar (an .nil))) aj) ?_
  refine uq (fun(S:ab.St) (q2:Option Addr) (c2:Nat) (sh:Bool)=>[(1,I6 mo),(7,.pointer (soz gk)),(8,.slice q2 S.out.length c2)]) (fun(S:ab.St) (q2:Option Addr) (c2:Nat) (sh:Bool)=>ai gk 151 [.slice p B.length cap,I6 (S.at_:Int),.bool false,.bool sh]::R::Row U5 q2 S.out.length c2 S.out::F) (fun(S:ab.St) (q2:Option Addr) (c2:Nat) (sh:Bool)=>ab.fS B mo ab.start S∧ab.Ok B mo S∧S.kind= -1∧S.ax=0∧S.ended=false) (fun(S:ab.St) (q2:Option Addr) (c2:Nat) (sh:Bool)=>ab.mu B S) (i4 (ab.start) (soz b24) (0) (false) ?_ (eo ln) (sub (dV .nil) aj)) ?_
  ·exact⟨ab.fS.refl _ _ _,ab.mN hm0,rfl,rfl,rfl⟩
  intro S q2 c2 sh
  rintro⟨hgo,hok,hk,hc,he⟩
  refine(nT) ?_
  have hat:=hok.at_
  have hro:=hok.room
  refine(Q5) ?_
  refine oC (tA gk p cap B R hR S.at_ sh hl hok.at_) V.yc rfl (aJ .nil) rfl<|(Qc) ?_
  refine av rfl (fun h27=>?_) (fun h27=>?_)
  ·refine(qG) ?_
   obtain rfl:=hq.oy (.inr ⟨hm0,_,hgo.fail he ((ab.kS omg hk).trans (ab.zQ omg)),rfl⟩)
   exact af (eY rfl rfl rfl) ⟨none,0,rfl,rfl⟩ (Sl.Sub.trans (bH (A:=Row U5 none 0 0 []) (fun w0=>Row.nil U5 w0 _)) (sub (an (.cons ar .nil)) dC))
  ·refine(Qb) ?_
   refine oC (jk gk p cap B R hR S.at_ sh 1 hl hB omg omg) V.lO rfl (aJ .nil) rfl<|(Qg) ?_
   refine oC (jk gk p cap B R hR (S.at_+1) sh 2 hl hB omg omg) V.lO rfl (aJ .nil) rfl<|rO TT 25 rfl ?_
   refine av rfl (fun h39=>?_) (fun h39=>?_)
   ·rcases(ab.F7 (mo:=mo) hB hok hk hc) with⟨e,hbo⟩|⟨S2,hbo⟩
    ·refine(Q4) ?_
     refine oC (AF gk p cap B R hR sh S mo q2 c2 hl hB hm hok (.error e) hk hc he omg omg hbo) V.Vr rfl (dV .nil) rfl<|(Qy)<|(UZ)<|(QO) ?_
     obtain rfl:=hq.oy (.inr ⟨hm0,_,hgo _ ((ab.kV hB hok hk hc he hbo).2 _ rfl),rfl⟩)
     exact af (eY rfl rfl rfl) ⟨none,0,rfl,rfl⟩ (Sl.Sub.trans (bH (A:=Row U5 none 0 0 []) (fun w0=>Row.nil U5 w0 _)) (sub (aJ .nil) aj))
    ·refine(Q4) ?_
     refine aQ (AF gk p cap B R hR sh S mo q2 c2 hl hB hm hok (.ok S2) hk hc he omg omg hbo) V.Vr rfl (dV .nil) rfl ?_
     rintro _ _ ⟨q9,c9,sh9,rfl,rfl⟩
     refine(Qy)<|(sd)<|(Q1) ?_
     obtain⟨g1,g2,g3,g4,g5,g6⟩:=(ab.kV hB hok hk hc he hbo).1 S2 rfl
     have hat2:=g2.at_
     refine(Qb) ?_
     refine av rfl (fun h87=>?_) (fun h87=>?_)
     ·refine(Qa)<|(VU) ?_
      iterate 2 refine nM ?_
      refine nN ?_
      refine nG V.sM ?_
      refine(Qz) ?_
      refine(Qv) ?_
      refine(yC) ?_
      iterate 3 refine nA ?_
      refine(Qi) ?_
      intro y hA
      clear hA
      refine bJ<|(W1)<|(SQ)<|(Q4) ?_
      obtain rfl:=hq.oy (.inr ⟨hm0,_,hgo _ (g1 _ (.done (by rw[g5];exact decide_eq_true omg))),rfl⟩)
      rw[show((S2.at_:Int)+7)/8=(((S2.at_+7)/8:Nat):Int) from by omega]
      exact af (eY rfl rfl rfl) ⟨q9,c9,rfl,rfl⟩ (sub (.cons aL (.cons ar .nil)) bg)
     ·refine(Q5) ?_
      refine j4 (S2) (q9) (c9) (sh9) ?_ (eo ln) (sub (dV .nil) aj)
      exact⟨⟨hgo.trans g1,g2,g3,g4,by rw[g5];exact decide_eq_false omg⟩,g6⟩
   ·refine(Qf) ?_
    refine av rfl (fun h48=>?_) (fun h48=>?_)
    ·refine(Q5) ?_
     refine aQ (Ry) V.ab0 rfl .nil rfl ?_
     rintro _ _ ⟨x15,y15,rfl,rfl⟩
     refine(Qd) ?_
     rcases(ab.F7 (mo:=mo) hB hok hk hc) with⟨e,hbo⟩|⟨S2,hbo⟩
     ·have hbeg:=ab.zN (B:=B) (s:=S) omg omg
      have hbl:=hbo.go hbeg
      have hok1:=(ab.dX hB hok ((ab.kS omg hk).trans hbeg)).ok
      refine(Qf) ?_
      refine oC ((uc gk p cap B R hR sh {S with at_:=S.at_+3,kind:=1,last:=decide ((ag.aG B S.at_ 1)=1),lits:=ab.dO,du:=ab.jT} mo q2 c2 hl hB hm hok1 (.error e) x15 y15 (show(0:Int)<1 by decide) hc he hbl)) V.Ff rfl (.cons aL (.cons aL (dV .nil))) rfl<|(Qy)<|(UZ)<|(QO) ?_
      obtain rfl:=hq.oy (.inr ⟨hm0,_,hgo _ ((ab.kV hB hok hk hc he hbo).2 _ rfl),rfl⟩)
      exact af (eY rfl rfl rfl) ⟨none,0,rfl,rfl⟩ (Sl.Sub.trans (bH (A:=Row U5 none 0 0 []) (fun w0=>Row.nil U5 w0 _)) (sub (aJ .nil) aj))
     ·have hbeg:=ab.zN (B:=B) (s:=S) omg omg
      have hbl:=hbo.go hbeg
      have hok1:=(ab.dX hB hok ((ab.kS omg hk).trans hbeg)).ok
      refine(Qf) ?_
      refine aQ ((uc gk p cap B R hR sh {S with at_:=S.at_+3,kind:=1,last:=decide ((ag.aG B S.at_ 1)=1),lits:=ab.dO,du:=ab.jT} mo q2 c2 hl hB hm hok1 (.ok S2) x15 y15 (show(0:Int)<1 by decide) hc he hbl)) V.Ff rfl (.cons aL (.cons aL (dV .nil))) rfl ?_
      rintro _ _ ⟨q9,c9,sh9,rfl,rfl⟩
      refine(Qy)<|(sd)<|(Q1) ?_
      obtain⟨g1,g2,g3,g4,g5,g6⟩:=(ab.kV hB hok hk hc he hbo).1 S2 rfl
      have hat2:=g2.at_
      refine(Qb) ?_
      refine av rfl (fun h87=>?_) (fun h87=>?_)
      ·refine(Qa)<|(VU) ?_
       iterate 2 refine nM ?_
       refine nN ?_
       refine nG V.sM ?_
       refine(Qz) ?_
       refine(Qv) ?_
       refine(yC) ?_
       iterate 3 refine nA ?_
       refine(Qi) ?_
       intro y hA
       clear hA
       refine bJ<|(W1)<|(SQ)<|(Q4) ?_
       obtain rfl:=hq.oy (.inr ⟨hm0,_,hgo _ (g1 _ (.done (by rw[g5];exact decide_eq_true omg))),rfl⟩)
       rw[show((S2.at_:Int)+7)/8=(((S2.at_+7)/8:Nat):Int) from by omega]
       exact af (eY rfl rfl rfl) ⟨q9,c9,rfl,rfl⟩ (sub (.cons aL (.cons ar .nil)) bg)
      ·refine(Q5) ?_
       refine j4 (S2) (q9) (c9) (sh9) ?_ (eo ln) (sub (dV .nil) aj)
       exact⟨⟨hgo.trans g1,g2,g3,g4,by rw[g5];exact decide_eq_false omg⟩,g6⟩
    ·refine(Qf) ?_
     refine av rfl (fun h63=>?_) (fun h63=>?_)
     ·rcases(ab.eO (ab.told B (S.at_+3))) with⟨e,ht⟩|⟨⟨a9,l9,d9⟩,ht⟩
      ·refine(Q3) ?_
       refine oC (NB gk p cap B R hR sh (S.at_+3) hl hB omg (.error e) ht) V.Sw rfl (aJ .nil) rfl<|(qK) ?_
       refine oV (bC (bG rfl rfl) (ab.xR ht))<|(Qe) ?_
       have hbo:ab.BO B mo S (.error e):=.inl ⟨e,ab.BX omg omg ht,rfl⟩
       refine(Q5) ?_
       refine oV (bQ (bO rfl rfl) (ab.xR ht))<|(QO) ?_
       obtain rfl:=hq.oy (.inr ⟨hm0,_,hgo _ ((ab.kV hB hok hk hc he hbo).2 _ rfl),rfl⟩)
       exact af (eY rfl rfl rfl) ⟨none,0,rfl,rfl⟩ (Sl.Sub.trans (bH (A:=Row U5 none 0 0 []) (fun w0=>Row.nil U5 w0 _)) (sub (aJ .nil) bg))
      ·refine(Q3) ?_
       refine aQ (NB gk p cap B R hR sh (S.at_+3) hl hB omg (.ok (a9,l9,d9)) ht) V.Sw rfl (aJ .nil) rfl ?_
       rintro _ _ ⟨x67,y67,sh8,rfl,rfl⟩
       refine(qK)<|(A6)<|(Qc) ?_
       rcases(ab.F7 (mo:=mo) hB hok hk hc) with⟨e,hbo⟩|⟨S2,hbo⟩
       ·have hbeg:=ab.xa (B:=B) (s:=S) omg omg ht
        have hbl:=hbo.go hbeg
        have hok1:=(ab.dX hB hok ((ab.kS omg hk).trans hbeg)).ok
        refine(Qf) ?_
        refine oC ((uc gk p cap B R hR sh8 {S with at_:=a9,kind:=2,last:=decide ((ag.aG B S.at_ 1)=1),lits:=l9,du:=d9} mo q2 c2 hl hB hm hok1 (.error e) x67 y67 (show(0:Int)<2 by decide) hc he hbl)) V.Ff rfl (iV .nil) rfl<|(Qy)<|(UZ)<|(QO) ?_
        obtain rfl:=hq.oy (.inr ⟨hm0,_,hgo _ ((ab.kV hB hok hk hc he hbo).2 _ rfl),rfl⟩)
        exact af (eY rfl rfl rfl) ⟨none,0,rfl,rfl⟩ (Sl.Sub.trans (bH (A:=Row U5 none 0 0 []) (fun w0=>Row.nil U5 w0 _)) (sub (aJ .nil) aj))
       ·have hbeg:=ab.xa (B:=B) (s:=S) omg omg ht
        have hbl:=hbo.go hbeg
        have hok1:=(ab.dX hB hok ((ab.kS omg hk).trans hbeg)).ok
        refine(Qf) ?_
        refine aQ ((uc gk p cap B R hR sh8 {S with at_:=a9,kind:=2,last:=decide ((ag.aG B S.at_ 1)=1),lits:=l9,du:=d9} mo q2 c2 hl hB hm hok1 (.ok S2) x67 y67 (show(0:Int)<2 by decide) hc he hbl)) V.Ff rfl (iV .nil) rfl ?_
        rintro _ _ ⟨q9,c9,sh9,rfl,rfl⟩
        refine(Qy)<|(sd)<|(Q1) ?_
        obtain⟨g1,g2,g3,g4,g5,g6⟩:=(ab.kV hB hok hk hc he hbo).1 S2 rfl
        have hat2:=g2.at_
        refine(Qb) ?_
        refine av rfl (fun h87=>?_) (fun h87=>?_)
        ·refine(Qa)<|(VU) ?_
         iterate 2 refine nM ?_
         refine nN ?_
         refine nG V.sM ?_
         refine(Qz) ?_
         refine(Qv) ?_
         refine(yC) ?_
         iterate 3 refine nA ?_
         refine(Qi) ?_
         intro y hA
         clear hA
         refine bJ<|(W1)<|(SQ)<|(Q4) ?_
         obtain rfl:=hq.oy (.inr ⟨hm0,_,hgo _ (g1 _ (.done (by rw[g5];exact decide_eq_true omg))),rfl⟩)
         rw[show((S2.at_:Int)+7)/8=(((S2.at_+7)/8:Nat):Int) from by omega]
         exact af (eY rfl rfl rfl) ⟨q9,c9,rfl,rfl⟩ (sub (.cons aL (.cons ar .nil)) bg)
        ·refine(Q5) ?_
         refine j4 (S2) (q9) (c9) (sh9) ?_ (eo ln) (sub (dV .nil) aj)
         exact⟨⟨hgo.trans g1,g2,g3,g4,by rw[g5];exact decide_eq_false omg⟩,g6⟩
     ·have hbo:ab.BO B mo S (.error 4):=.inl ⟨4,ab.Cb omg omg omg omg,rfl⟩
      refine(QJ) ?_
      refine oV (bQ (bO rfl rfl) dec)<|(QO) ?_
      obtain rfl:=hq.oy (.inr ⟨hm0,_,hgo _ ((ab.kV hB hok hk hc he hbo).2 _ rfl),rfl⟩)
      exact af (eY rfl rfl rfl) ⟨none,0,rfl,rfl⟩ (Sl.Sub.trans (bH (A:=Row U5 none 0 0 []) (fun w0=>Row.nil U5 w0 _)) (sub (an (.cons ar .nil)) dC))
end Go.Proofs.YtmaiakpjgomnpaaGreat
namespace Go.Proofs.YtmaiakpjgomnpaaGreat
open Go.Sl
end Go.Proofs.YtmaiakpjgomnpaaGreat
namespace Go.Proofs.YtmaiakpjgomnpaaGreat
open Go.Sl 
attribute [local irreducible] aN.qx ab.iU aN.most ag.aq aC.gh

def U4(p:Option Addr)(c:Nat)(B:List Int)(R:ad)(hR:∀w0 h,R w0 h→aE U5 p B.length B w0 h)(hl:B.length<500000000)(hB:ag.aq B):aA Tryz.prog 160 [.int .u32 1,.slice p B.length c] [R] (aF fun v G=>v=.int .u32 (aC.fU B)∧G=[R]):=by
 refine ao [(0,_),(1,_)] Tryz.func160 rfl Tryz.ntmps160 rfl rfl ?_
 intro w0 F
 refine(QQ) ?_
 refine oV (iT (r:=1) rfl rfl rfl)<|(Q8) ?_
 refine oV (eF (r:=0) rfl rfl dec rfl)<|(Qq) ?_
 rw[show((5:Nat),Value.int .u32 1)=(5,.int .u32 (aC.gh (B.take 0)).1) from by rw[List.take_zero,aC.uu],show((6:Nat),Value.int .u32 0)=(6,.int .u32 (aC.gh (B.take 0)).2) from by rw[List.take_zero,aC.uu]]
 refine cF (fun(i:Nat)=>[(5,.int .u32 (aC.gh (B.take i)).1),(6,.int .u32 (aC.gh (B.take i)).2),(13,.slice p B.length c),(14,I6 (B.length:Int)),(15,I6 (i:Int))]) (fun(i:Nat)=>R::F) (fun(i:Nat)=>i≤B.length) (fun(i:Nat)=>B.length-i) (i1 (0) ?_ (bb ln) (sub (an .nil) aj)) ?_
 ·exact Nat.zero_le _
 intro i
 rintro hi
 refine(Qs) ?_
 refine av rfl (fun h16=>?_) (fun h16=>?_)
 ·refine(Qf)<|(GS)<|(I1)<|(Q7) ?_
  have hv:0≤(U5.g B (i:Int))∧(U5.g B (i:Int))<256:=hB.get i
  have hs:=aC.sJ (B.take i)
  refine(Q3)<|(VK)<|(Ow)<|(Y9)<|(Q1)<|(Ow)<|(Zp)<|(QP) ?_
  have e5:((aC.gh (B.take i)).1+(U5.g B (i:Int)))%65521=(aC.gh (B.take (i+1))).1:=by rw[aC.rK omg];rfl
  have e6:((aC.gh (B.take i)).2+(aC.gh (B.take (i+1))).1)%65521=(aC.gh (B.take (i+1))).2:=by rw[aC.rK omg];rfl
  rw[e5,e6]
  exact j1 (i+1) ⟨omg,omg⟩ (bb ln) (sub (an .nil) aj)
 ·refine(Qf) ?_
  obtain rfl:i=B.length:=omg
  rw[List.take_length]
  have hs:=aC.sJ B
  refine(Q5)<|(Zg)<|(Q8)<|(Q7r)<|(Q7) ?_
  exact af (aw rfl) ⟨by unfold aC.fU;rfl,rfl⟩ (sub (an .nil) aj)

def Jv(p:Option Addr)(c:Nat)(B:List Int)(R:ad)(hR:∀w0 h,R w0 h→aE U5 p B.length B w0 h)(hl:B.length<500000000)(hB:ag.aq B):aA Tryz.prog 63 [.int .u32 1,.slice p B.length c] [R] (aF fun v G=>v=.int .u32 (aC.fU B)∧G=[R]):=by
 refine ao [(0,_),(1,_)] Tryz.func63 rfl Tryz.ntmps63 rfl rfl ?_
 intro w0 F
 refine(QQ) ?_
 refine oV (iT (r:=1) rfl rfl rfl)<|(Q8) ?_
 refine oV (eF (r:=0) rfl rfl dec rfl)<|(Qj) ?_
 rw[show((5:Nat),Value.int .u32 1)=(5,.int .u32 (aC.gh (B.take 0)).1) from by rw[List.take_zero,aC.uu],show((6:Nat),Value.int .u32 0)=(6,.int .u32 (aC.gh (B.take 0)).2) from by rw[List.take_zero,aC.uu]]
 refine cF (fun(i:Nat)=>[(1,.slice p B.length c),(5,.int .u32 (aC.gh (B.take i)).1),(6,.int .u32 (aC.gh (B.take i)).2),(7,I6 (i:Int))]) (fun(i:Nat)=>R::F) (fun(i:Nat)=>i≤B.length) (fun(i:Nat)=>B.length-i) (i1 (0) ?_ (cK ln) (sub (an .nil) aj)) ?_
 ·exact Nat.zero_le _
 intro i
 rintro hi
 refine(pe) ?_
 refine av rfl (fun h15=>?_) (fun h15=>?_)
 ·refine(Qb) ?_
  have hv:0≤(U5.g B (i:Int))∧(U5.g B (i:Int))<256:=hB.get i
  have hs:=aC.sJ (B.take i)
  refine(Q4)<|(GS)<|(I1)<|(VK)<|(Ow)<|(Y9)<|(Q1)<|(Ow)<|(Zp)<|(QU) ?_
  have e5:((aC.gh (B.take i)).1+(U5.g B (i:Int)))%65521=(aC.gh (B.take (i+1))).1:=by rw[aC.rK omg];rfl
  have e6:((aC.gh (B.take i)).2+(aC.gh (B.take (i+1))).1)%65521=(aC.gh (B.take (i+1))).2:=by rw[aC.rK omg];rfl
  rw[e5,e6]
  exact j1 (i+1) ⟨omg,omg⟩ (cK ln) (sub (an .nil) aj)
 ·refine(Qf) ?_
  obtain rfl:i=B.length:=omg
  rw[List.take_length]
  have hs:=aC.sJ B
  refine(Q5)<|(Zg)<|(Q8)<|(Q7r)<|(Q7) ?_
  exact af (aw rfl) ⟨by unfold aC.fU;rfl,rfl⟩ (sub (an .nil) aj)
def OA(p:Option Addr)(c:Nat)(B:List Int)(R:ad)(hR:∀w0 h,R w0 h→aE U5 p B.length B w0 h)(hl:B.length<500000000)(hB:ag.aq B):aA Tryz.prog 135 [.slice p B.length c] [R] (aF fun v G=>v=.int .u32 (aC.fU B)∧G=[R]):=by
 refine ao [(0,_)] Tryz.func135 rfl Tryz.ntmps135 rfl rfl ?_
 intro w0 F
 refine(QQ) ?_
 refine oC (U4 p c B R hR hl hB) V.ack rfl (an .nil) rfl<|(Q7) ?_
 exact af (aw rfl) ⟨rfl,rfl⟩ (sub (an .nil) aj)

def H4(p:Option Addr)(c:Nat)(B:List Int)(R:ad)(hR:∀w0 h,R w0 h→aE U5 p B.length B w0 h)(hl:2≤B.length)(hB:ag.aq B)(t:Bool)(ht:t=decide (aC.Hd (B.getD 0 0) (B.getD 1 0))):aA Tryz.prog 118 [.slice p B.length c] [R] (aF fun v G=>v=.bool t∧G=[R]):=by
 refine ao [(0,_)] Tryz.func118 rfl Tryz.ntmps118 rfl rfl ?_
 intro w0 F
 have hv:0≤(U5.g B 0)∧(U5.g B 0)<256:=hB.get 0
 have hw:0≤(U5.g B 1)∧(U5.g B 1)<256:=hB.get 1
 have ht2:t=decide (aC.Hd (U5.g B 0) (U5.g B 1)):=ht
 clear ht
 refine(l6)<|(jV)<|(mq)<|(lX)<|(lR)<|(ie)<|(mq)<|(lX)<|(lR)<|(ie)<|(Qw)<|(lq) ?_
 refine bJ ?_
 rcases(aC.XP (U5.g B 0) (U5.g B 1)) with h1|⟨h1,h2⟩|⟨h1,h2,h3⟩|⟨h1,h2,h3,h4⟩|⟨h1,h2,h3,h4⟩
 ·refine(Q3)<|(Jm)<|(QA) ?_
  refine rO TT 22 rfl ?_
  (obtain rfl:t=false:=ht2.trans (decide_eq_false (by unfold aC.Hd;intro hh;omega));exact af (G:=[R]) (aw rfl) ⟨rfl,rfl⟩ (sub (an .nil) aj))
 ·refine(Q3) ?_
  refine(Jm) ?_
  refine(QD) ?_
  refine(Q9) ?_
  refine(Q0) ?_
  refine(Ot) ?_
  refine(Q0) ?_
  refine(Mt) ?_
  refine(qK) ?_
  (obtain rfl:t=false:=ht2.trans (decide_eq_false (by unfold aC.Hd;intro hh;omega));exact af (G:=[R]) (aw rfl) ⟨rfl,rfl⟩ (sub (an .nil) aj))
 ·refine(Q3) ?_
  refine(Jm) ?_
  refine(QD) ?_
  refine(Q9) ?_
  refine(Q0) ?_
  refine(Ot) ?_
  refine(Q0) ?_
  refine(yz) ?_
  refine(Qc) ?_
  refine(Q0) ?_
  refine(V1) ?_
  refine(Q0) ?_
  refine(Q8) ?_
  refine(Q0) ?_
  refine(WH) ?_
  refine(Q0) ?_
  refine(SN) ?_
  refine(Q0) ?_
  refine(QA) ?_
  refine(Qg) ?_
  (obtain rfl:t=false:=ht2.trans (decide_eq_false (by unfold aC.Hd;intro hh;omega));exact af (G:=[R]) (aw rfl) ⟨rfl,rfl⟩ (sub (an .nil) aj))
 ·refine(Q3) ?_
  refine(Jm) ?_
  refine(QD) ?_
  refine(Q9) ?_
  refine(Q0) ?_
  refine(Ot) ?_
  refine(Q0) ?_
  refine(yz) ?_
  refine(Qc) ?_
  refine(Q0) ?_
  refine(V1) ?_
  refine(Q0) ?_
  refine(Q8) ?_
  refine(Q0) ?_
  refine(WH) ?_
  refine(Q0) ?_
  refine(SN) ?_
  refine(Q0) ?_
  refine(QD) ?_
  refine(Qc) ?_
  refine(Q0) ?_
  refine oV (iT (r:=32*((U5.g B 1)/32%2)) rfl rfl (aC.FV hw)) ?_
  refine(Q0) ?_
  refine(QA) ?_
  refine(Q6) ?_
  (obtain rfl:t=false:=ht2.trans (decide_eq_false (by unfold aC.Hd;intro hh;omega));exact af (G:=[R]) (aw rfl) ⟨rfl,rfl⟩ (sub (an .nil) aj))
 ·refine(Q3) ?_
  refine(Jm) ?_
  refine(QD) ?_
  refine(Q9) ?_
  refine(Q0) ?_
  refine(Ot) ?_
  refine(Q0) ?_
  refine(yz) ?_
  refine(Qc) ?_
  refine(Q0) ?_
  refine(V1) ?_
  refine(Q0) ?_
  refine(Q8) ?_
  refine(Q0) ?_
  refine(WH) ?_
  refine(Q0) ?_
  refine(SN) ?_
  refine(Q0) ?_
  refine(QD) ?_
  refine(Qc) ?_
  refine(Q0) ?_
  refine oV (iT (r:=32*((U5.g B 1)/32%2)) rfl rfl (aC.FV hw)) ?_
  refine(Q0) ?_
  refine(QD) ?_
  refine(Q6) ?_
  (obtain rfl:t=true:=ht2.trans (decide_eq_true (by unfold aC.Hd;exact⟨h1,h2,h3,h4⟩));exact af (G:=[R]) (aw rfl) ⟨rfl,rfl⟩ (sub (an .nil) aj))

def Xq(p:Option Addr)(c:Nat)(B:List Int)(R:ad)(hR:∀w0 h,R w0 h→aE U5 p B.length B w0 h)(hl:B.length<500000000)(hB:ag.aq B):aA Tryz.prog 103 [.slice p B.length c] [R] (aF fun v G=>v=.string (strOfNums (aC.kh B))∧G=[R]):=by
 refine ao [(0,_)] Tryz.func103 rfl Tryz.ntmps103 rfl rfl ?_
 intro w0 F
 have hn:=aC.xh B
 refine(QQ) ?_
 refine oC (OA p c B R hR hl hB) V.acL rfl (an .nil) rfl<|(Q1) ?_
 refine oV (eF (r:=aC.fU B/2^24) rfl rfl dec (aC.Ft (n:=24) rfl dec))<|oV (cS V.D3 Tryz.underlying5 rfl ((ag.gU _).trans (show(aC.fU B/2^24)%256=aC.fU B/16777216 from by omega)))<|(Q8) ?_
 refine oV (eF (r:=aC.fU B/2^16) rfl rfl dec (aC.Ft (n:=16) rfl dec))<|oV (cS V.D3 Tryz.underlying5 rfl ((ag.gU _).trans (show(aC.fU B/2^16)%256=aC.fU B/65536%256 from by omega)))<|(Q8) ?_
 refine oV (eF (r:=aC.fU B/2^8) rfl rfl dec (aC.Ft (n:=8) rfl dec))<|oV (cS V.D3 Tryz.underlying5 rfl ((ag.gU _).trans (show(aC.fU B/2^8)%256=aC.fU B/256%256 from by omega)))<|(Q8) ?_
 refine oV (cS V.D3 Tryz.underlying5 rfl ((ag.gU _).trans (show(aC.fU B)%256=aC.fU B%256 from by omega)))<|cg (U5) (aC.kh B) V.bT V.z5 rfl rfl rfl rfl rfl rfl ?_
 intro nW
 refine oV (px (T:=5) Tryz.underlying22 Tryz.underlying5 Tryz.underlying9 rfl (own ay))<|(Q7) ?_
 exact af (aw rfl) ⟨rfl,rfl⟩ (sub (.cons ar .nil) bg)
end Go.Proofs.YtmaiakpjgomnpaaGreat
namespace Go.Proofs.YtmaiakpjgomnpaaGreat
open Go.Sl 
attribute [local irreducible] aN.qx ab.iU aN.most ag.aq aC.gh aC.kh aC.fU
section
variable {C:Ctx} {E:Env} {L:List ad} {ty:TypeId}
def lz{x y:Operand}{t t':TypeId}{s u:ByteArray}{r:Bool}(hr:(s.toList==u.toList)=r)(hx:au E x=some (.string s))(hy:au E y=some (.string u)):cx C (.binOp .neq t x y t') ty E L (.bool (!r)) L:=
 dM fun d pos aft g a w ha=>by
  rw[kl d pos aft g (ha.eval hx) (ha.eval hy) (by simp[eqGuard])]
  simp[binOp,Op.stringOp,Sem.run_pure,←hr,bne]
end
def WG(p:Option Addr)(c n:Nat)(L:List Int)(R:ad)(hR:∀w0 h,R w0 h→aE U5 p n L w0 h)(hn:L.length=n)(hl:n<500000000)(hB:ag.aq L)(mo:Int)(hm:mo<500000000)(x:List Int)(u e:Int)(hq:ab.iU L mo (x,u,e)):aA Tryz.prog 119 [.slice p n c,I6 mo] [R] (aF fun v G=>∃qq cq,v=.tuple #[.slice qq x.length cq,I6 u,I6 e]∧G=[Row U5 qq x.length cq x,R]):=by
 subst hn
 exact Ys p c L R hR hl hB mo hm (x,u,e) hq
def TU(p:Option Addr)(c n:Nat)(L:List Int)(R:ad)(hR:∀w0 h,R w0 h→aE U5 p n L w0 h)(hn:L.length=n)(hl:n<500000000)(hB:ag.aq L)(mo:Int)(hm:mo<500000000)(x:List Int)(u e:Int)(hq:ab.iU L mo (x,u,e)):aA Tryz.prog 88 [.slice p n c,I6 mo] [R] (aF fun v G=>∃qq cq,v=.tuple #[.slice qq x.length cq,I6 u,I6 e]∧G=[Row U5 qq x.length cq x,R]):=by
 subst hn
 exact YI p c L R hR hl hB mo hm (x,u,e) hq

def Tf(p:Option Addr)(c:Nat)(B:List Int)(R:ad)(hR:∀w0 h,R w0 h→aE U5 p B.length B w0 h)(hcap:B.length≤c)(hl:B.length<500000000)(hB:ag.aq B)(mo:Int)(hm:mo<500000000)(q:List Int×Int)(hq:aC.nb B mo q):aA Tryz.prog 84 [.slice p B.length c,I6 mo] [R] (aF fun v G=>∃qq cq,v=.tuple #[.slice qq q.1.length cq,I6 q.2]∧G=[Row U5 qq q.1.length cq q.1,R]):=by
 refine ao [(0,_),(1,_)] Tryz.func84 rfl Tryz.ntmps84 rfl rfl ?_
 intro w0 F
 refine(QQ) ?_
 rcases(hq.SL hB hm) with⟨hb6,rfl⟩|⟨hb6,hhd,rfl⟩|⟨x,n,e,hb6,hhd,hr,hxB,hxl,hn,hws⟩
 ·refine(Q4)<|(QG)<|(Qq) ?_
  exact af (bR rfl rfl) ⟨none,0,rfl,rfl⟩ (Sl.Sub.trans (bH (A:=Row U5 none 0 0 []) (fun w0=>Row.nil U5 w0 _)) (sub (aJ .nil) aj))
 ·refine(Q4)<|(QL)<|(Qd) ?_
  refine oC (H4 p c B R hR omg hB false (decide_eq_false hhd).symm) V.Tw rfl (an .nil) rfl<|(QE) ?_
  exact af (bR rfl rfl) ⟨none,0,rfl,rfl⟩ (Sl.Sub.trans (bH (A:=Row U5 none 0 0 []) (fun w0=>Row.nil U5 w0 _)) (sub (aJ .nil) aj))
 ·refine(Q4)<|(QL)<|(Qd) ?_
  refine oC (H4 p c B R hR omg hB true (decide_eq_true hhd).symm) V.Tw rfl (an .nil) rfl<|(Qn) ?_
  have hB2:=aC.cA hB 2
  have hD2:∀w0 h,R w0 h→aE U5 (cM p 2 c 1) (B.length-2) (B.drop 2) w0 h:=fun w0 h hh=>eB (c:=U5) hR rfl 2 c omg hcap w0 h hh
  refine(Q5)<|(ZX)<|(Q8) ?_
  refine aQ (WG (cM p 2 c 1) (c-2) (B.length-2) (B.drop 2) R hD2 List.length_drop omg hB2 mo hm x (n:Int) e hr) V.ab8 rfl (an .nil) rfl ?_
  rintro _ _ ⟨q22,c22,rfl,rfl⟩
  refine(Qg) ?_
  have hBn:=aC.cA hB (2+n)
  have hDn:∀w0 h,R w0 h→aE U5 (cM p (2+n) c 1) (B.length-(2+n)) (B.drop (2+n)) w0 h:=fun w0 h hh=>eB (c:=U5) hR rfl (2+n) c omg hcap w0 h hh
  refine(Q3)<|(Gh)<|(HQ)<|(Q6) ?_
  rcases(hws) with⟨he,rfl⟩|⟨he,h4,rfl⟩|⟨he,h4,rfl⟩|⟨he,h4,hne,rfl⟩|⟨he,h4,heq,rfl⟩
  ·refine(Q3)<|(NH)<|(QE) ?_
   exact af (bR rfl rfl) ⟨none,0,rfl,rfl⟩ (Sl.Sub.trans (bH (A:=Row U5 none 0 0 []) (fun w0=>Row.nil U5 w0 _)) (sub (an (.cons ar .nil)) bg))
  ·refine(Q3)<|(zy)<|(Qe)<|(QG)<|(Qq) ?_
   exact af (bR rfl rfl) ⟨none,0,rfl,rfl⟩ (Sl.Sub.trans (bH (A:=Row U5 none 0 0 []) (fun w0=>Row.nil U5 w0 _)) (sub (an (.cons ar .nil)) bg))
  ·refine(Q3) ?_
   refine(zy) ?_
   refine(Qe) ?_
   refine(QL) ?_
   refine(Qe) ?_
   refine(Qp) ?_
   refine(Qq) ?_
   exact af (bR rfl rfl) ⟨none,0,rfl,rfl⟩ (Sl.Sub.trans (bH (A:=Row U5 none 0 0 []) (fun w0=>Row.nil U5 w0 _)) (sub (an (.cons ar .nil)) bg))
  ·refine(Q3) ?_
   refine(zy) ?_
   refine(Qe) ?_
   refine(QL) ?_
   refine(Qe) ?_
   refine(Qo) ?_
   refine(Q6) ?_
   refine(Q7t) ?_
   refine nM ?_
   refine(Zc) ?_
   refine nM ?_
   refine(YX) ?_
   refine nV (fun y hA L=>cn (v:=.bool true) (lz (rU (aC.aT hBn) (aC.aT (aC.uo x)) hne) rfl rfl) rfl) ?_
   refine nA ?_
   refine(Qi) ?_
   intro y hA
   clear hA
   refine bJ<|(ZN)<|(QN) ?_
   exact af (bR rfl rfl) ⟨none,0,rfl,rfl⟩ (Sl.Sub.trans (bH (A:=Row U5 none 0 0 []) (fun w0=>Row.nil U5 w0 _)) (sub (aJ .nil) bg))
  ·refine(Q3) ?_
   refine(zy) ?_
   refine(Qe) ?_
   refine(QL) ?_
   refine(Qe) ?_
   refine(Qo) ?_
   refine(Q6) ?_
   refine(Q7t) ?_
   refine nM ?_
   refine(Zc) ?_
   refine nM ?_
   refine(YX) ?_
   refine nV (fun y hA L=>cn (v:=.bool false) (lz (r:=true) (by rw[heq];exact beq_self_eq_true _) rfl rfl) rfl) ?_
   refine nA ?_
   refine(Qi) ?_
   intro y hA
   clear hA
   refine bJ<|(ZN)<|(qG) ?_
   exact af (bR rfl rfl) ⟨q22,c22,rfl,rfl⟩ (sub (.cons ar (an .nil)) aj)

def TZ(p:Option Addr)(c:Nat)(B:List Int)(R:ad)(hR:∀w0 h,R w0 h→aE U5 p B.length B w0 h)(hcap:B.length≤c)(hl:B.length<500000000)(hB:ag.aq B)(mo:Int)(hm:mo<500000000)(q:List Int×Int)(hq:aC.nb B mo q):aA Tryz.prog 49 [.slice p B.length c,I6 mo] [R] (aF fun v G=>∃qq cq,v=.tuple #[.slice qq q.1.length cq,I6 q.2]∧G=[Row U5 qq q.1.length cq q.1,R]):=by
 refine ao [(0,_),(1,_)] Tryz.func49 rfl Tryz.ntmps49 rfl rfl ?_
 intro w0 F
 have hv:0≤(U5.g B 0)∧(U5.g B 0)<256:=hB.get 0
 have hw:0≤(U5.g B 1)∧(U5.g B 1)<256:=hB.get 1
 have hq2:=hq.SL hB hm
 rw[show B.getD 0 0=(U5.g B 0) from rfl,show B.getD 1 0=(U5.g B 1) from rfl] at hq2
 refine(l6) ?_
 rcases(hq2) with⟨hb6,rfl⟩|⟨hb6,hhd,rfl⟩|⟨x,n,e,hb6,⟨h1,h2,h3,h5⟩,hr,hxB,hxl,hn,hws⟩
 ·refine(Qb)<|(QG)<|(Qj) ?_
  exact af (bR rfl rfl) ⟨none,0,rfl,rfl⟩ (Sl.Sub.trans (bH (A:=Row U5 none 0 0 []) (fun w0=>Row.nil U5 w0 _)) (sub (aJ .nil) aj))
 ·refine(Qb)<|(QL)<|(Q6) ?_
  rcases(aC.Yy hhd) with h1|⟨h1,h2⟩|⟨h1,h2,h3⟩|⟨h1,h2,h3,h5⟩
  ·refine(Q5)<|(jV)<|(mq)<|(lX)<|(lR)<|(G1) ?_
   refine oR (bQ (bO rfl rfl) omg)<|rR TT 28 rfl<|(lq) ?_
   exact rN TT 10 rfl<|af (bR rfl rfl) ⟨none,0,rfl,rfl⟩ (Sl.Sub.trans (bH (A:=Row U5 none 0 0 []) (fun w0=>Row.nil U5 w0 _)) (sub (aJ .nil) aj))
  ·refine(Q5) ?_
   refine(jV) ?_
   refine(mq) ?_
   refine(lX) ?_
   refine(lR) ?_
   refine(G1) ?_
   refine(Bc) ?_
   refine(Qw) ?_
   refine(eI) ?_
   refine(lX) ?_
   refine(eI) ?_
   refine(lR) ?_
   refine(eI) ?_
   refine(Ny) ?_
   refine(eI) ?_
   refine oR (bQ (cR rfl rfl) omg) ?_
   refine rR TT 22 rfl ?_
   refine(lq) ?_
   refine rN TT 10 rfl ?_
   exact af (bR rfl rfl) ⟨none,0,rfl,rfl⟩ (Sl.Sub.trans (bH (A:=Row U5 none 0 0 []) (fun w0=>Row.nil U5 w0 _)) (sub (aJ .nil) aj))
  ·refine(Q5) ?_
   refine(jV) ?_
   refine(mq) ?_
   refine(lX) ?_
   refine(lR) ?_
   refine(G1) ?_
   refine(Bc) ?_
   refine(Qw) ?_
   refine(eI) ?_
   refine(lX) ?_
   refine(eI) ?_
   refine(lR) ?_
   refine(eI) ?_
   refine(Ny) ?_
   refine(eI) ?_
   refine oR (bC (cR rfl rfl) omg) ?_
   refine rR TT 3 rfl ?_
   refine(eI) ?_
   refine(lX) ?_
   refine(eI) ?_
   refine(lR) ?_
   refine(eI) ?_
   refine(ie) ?_
   refine(Im) ?_
   refine(eI) ?_
   refine(lX) ?_
   refine(eI) ?_
   refine(lR) ?_
   refine(eI) ?_
   refine(ie) ?_
   refine zV TT 1 rfl omg ?_
   refine(eI) ?_
   refine(WD) ?_
   refine(eI) ?_
   refine oR (bQ (bO rfl rfl) omg) ?_
   refine rR TT 8 rfl ?_
   refine(lq) ?_
   refine rN TT 10 rfl ?_
   exact af (bR rfl rfl) ⟨none,0,rfl,rfl⟩ (Sl.Sub.trans (bH (A:=Row U5 none 0 0 []) (fun w0=>Row.nil U5 w0 _)) (sub (aJ .nil) aj))
  ·refine(Q5) ?_
   refine(jV) ?_
   refine(mq) ?_
   refine(lX) ?_
   refine(lR) ?_
   refine(G1) ?_
   refine(Bc) ?_
   refine(Qw) ?_
   refine(eI) ?_
   refine(lX) ?_
   refine(eI) ?_
   refine(lR) ?_
   refine(eI) ?_
   refine(Ny) ?_
   refine(eI) ?_
   refine oR (bC (cR rfl rfl) omg) ?_
   refine rR TT 3 rfl ?_
   refine(eI) ?_
   refine(lX) ?_
   refine(eI) ?_
   refine(lR) ?_
   refine(eI) ?_
   refine(ie) ?_
   refine(Im) ?_
   refine(eI) ?_
   refine(lX) ?_
   refine(eI) ?_
   refine(lR) ?_
   refine(eI) ?_
   refine(ie) ?_
   refine zV TT 1 rfl omg ?_
   refine(eI) ?_
   refine(WD) ?_
   refine(eI) ?_
   refine(Bc) ?_
   refine rR TT 3 rfl ?_
   refine(eI) ?_
   refine(lX) ?_
   refine(eI) ?_
   refine(lR) ?_
   refine(eI) ?_
   refine oR (iT (r:=32*((U5.g B 1)/32%2)) rfl rfl (aC.AN hw)) ?_
   refine(eI) ?_
   refine oR (bQ (bO rfl rfl) omg) ?_
   refine oR (pR rfl rfl) ?_
   refine(lq) ?_
   refine rN TT 10 rfl ?_
   exact af (bR rfl rfl) ⟨none,0,rfl,rfl⟩ (Sl.Sub.trans (bH (A:=Row U5 none 0 0 []) (fun w0=>Row.nil U5 w0 _)) (sub (aJ .nil) aj))
 ·refine(Qb) ?_
  refine(QL) ?_
  refine(Qd) ?_
  refine(jV) ?_
  refine(mq) ?_
  refine(lX) ?_
  refine(lR) ?_
  refine(G1) ?_
  refine(Bc) ?_
  refine(Qw) ?_
  refine(eI) ?_
  refine(lX) ?_
  refine(eI) ?_
  refine(lR) ?_
  refine(eI) ?_
  refine(Ny) ?_
  refine(eI) ?_
  refine oR (bC (cR rfl rfl) omg) ?_
  refine rR TT 3 rfl ?_
  refine(eI) ?_
  refine(lX) ?_
  refine(eI) ?_
  refine(lR) ?_
  refine(eI) ?_
  refine(ie) ?_
  refine(Im) ?_
  refine(eI) ?_
  refine(lX) ?_
  refine(eI) ?_
  refine(lR) ?_
  refine(eI) ?_
  refine(ie) ?_
  refine zV TT 1 rfl omg ?_
  refine(eI) ?_
  refine(WD) ?_
  refine(eI) ?_
  refine(Bc) ?_
  refine rR TT 3 rfl ?_
  refine(eI) ?_
  refine(lX) ?_
  refine(eI) ?_
  refine(lR) ?_
  refine(eI) ?_
  refine oR (iT (r:=32*((U5.g B 1)/32%2)) rfl rfl (aC.AN hw)) ?_
  refine(eI) ?_
  refine(Bc) ?_
  refine oR (pR rfl rfl) ?_
  refine(lq) ?_
  refine rN TT 5 rfl ?_
  have hB2:=aC.cA hB 2
  have hD2:∀w0 h,R w0 h→aE U5 (cM p 2 c 1) (B.length-2) (B.drop 2) w0 h:=fun w0 h hh=>eB (c:=U5) hR rfl 2 c omg hcap w0 h hh
  refine(Q5)<|(ZX)<|(Q8) ?_
  refine aQ (TU (cM p 2 c 1) (c-2) (B.length-2) (B.drop 2) R hD2 List.length_drop omg hB2 mo hm x (n:Int) e hr) V.b88 rfl (an .nil) rfl ?_
  rintro _ _ ⟨q22,c22,rfl,rfl⟩
  refine(Qn) ?_
  rcases(hws) with⟨he,rfl⟩|⟨he,h4,rfl⟩|⟨he,h4,rfl⟩|⟨he,h4,hne,rfl⟩|⟨he,h4,heq,rfl⟩
  ·refine(Q4)<|(NH)<|(Qy) ?_
   exact af (bR rfl rfl) ⟨none,0,rfl,rfl⟩ (Sl.Sub.trans (bH (A:=Row U5 none 0 0 []) (fun w0=>Row.nil U5 w0 _)) (sub (an (.cons ar .nil)) bg))
  ·refine(Q4)<|(zy)<|(Q1) ?_
   have hBn:=aC.cA hB (2+n)
   have hDn:∀w0 h,R w0 h→aE U5 (cM p (2+n) c 1) (B.length-(2+n)) (B.drop (2+n)) w0 h:=fun w0 h hh=>eB (c:=U5) hR rfl (2+n) c omg hcap w0 h hh
   have hg0:0≤(U5.g (B.drop (2+n)) 0)∧(U5.g (B.drop (2+n)) 0)<256:=hBn.get 0
   have hg1:0≤(U5.g (B.drop (2+n)) 1)∧(U5.g (B.drop (2+n)) 1)<256:=hBn.get 1
   have hg2:0≤(U5.g (B.drop (2+n)) 2)∧(U5.g (B.drop (2+n)) 2)<256:=hBn.get 2
   have hg3:0≤(U5.g (B.drop (2+n)) 3)∧(U5.g (B.drop (2+n)) 3)<256:=hBn.get 3
   refine(Q3)<|(Gh)<|(HQ)<|(Qe)<|(QG)<|(Qj) ?_
   exact af (bR rfl rfl) ⟨none,0,rfl,rfl⟩ (Sl.Sub.trans (bH (A:=Row U5 none 0 0 []) (fun w0=>Row.nil U5 w0 _)) (sub (an (.cons ar .nil)) bg))
  ·refine(Q4)<|(zy)<|(Q1) ?_
   have hBn:=aC.cA hB (2+n)
   have hDn:∀w0 h,R w0 h→aE U5 (cM p (2+n) c 1) (B.length-(2+n)) (B.drop (2+n)) w0 h:=fun w0 h hh=>eB (c:=U5) hR rfl (2+n) c omg hcap w0 h hh
   have hg0:0≤(U5.g (B.drop (2+n)) 0)∧(U5.g (B.drop (2+n)) 0)<256:=hBn.get 0
   have hg1:0≤(U5.g (B.drop (2+n)) 1)∧(U5.g (B.drop (2+n)) 1)<256:=hBn.get 1
   have hg2:0≤(U5.g (B.drop (2+n)) 2)∧(U5.g (B.drop (2+n)) 2)<256:=hBn.get 2
   have hg3:0≤(U5.g (B.drop (2+n)) 3)∧(U5.g (B.drop (2+n)) 3)<256:=hBn.get 3
   refine(Q3)<|(Gh)<|(HQ)<|(Qe)<|(QL)<|(Qg)<|(Qp)<|(Qj) ?_
   exact af (bR rfl rfl) ⟨none,0,rfl,rfl⟩ (Sl.Sub.trans (bH (A:=Row U5 none 0 0 []) (fun w0=>Row.nil U5 w0 _)) (sub (an (.cons ar .nil)) bg))
  ·refine(Q4)<|(zy)<|(Q1) ?_
   have hBn:=aC.cA hB (2+n)
   have hDn:∀w0 h,R w0 h→aE U5 (cM p (2+n) c 1) (B.length-(2+n)) (B.drop (2+n)) w0 h:=fun w0 h hh=>eB (c:=U5) hR rfl (2+n) c omg hcap w0 h hh
   have hg0:0≤(U5.g (B.drop (2+n)) 0)∧(U5.g (B.drop (2+n)) 0)<256:=hBn.get 0
   have hg1:0≤(U5.g (B.drop (2+n)) 1)∧(U5.g (B.drop (2+n)) 1)<256:=hBn.get 1
   have hg2:0≤(U5.g (B.drop (2+n)) 2)∧(U5.g (B.drop (2+n)) 2)<256:=hBn.get 2
   have hg3:0≤(U5.g (B.drop (2+n)) 3)∧(U5.g (B.drop (2+n)) 3)<256:=hBn.get 3
   refine(Q3)<|(Gh)<|(HQ)<|(Qe)<|(QL)<|(Qg)<|(Qo)<|(Q1)<|(jV)<|(mq)<|(yB)<|(zm)<|(lU)<|(Q7w)<|(mq)<|(yB)<|(zm)<|(lU)<|(Zu)<|(Q7y)<|(mq)<|(yB)<|(zm)<|(lU) ?_
   refine(YY)<|(Zl)<|(mq)<|(yB)<|(zm)<|(lU)<|(Q7B)<|(qE)<|(lq) ?_
   refine rN TT 6 rfl<|(Q7C) ?_
   refine oV (bQ (bO rfl rfl) (fun hh=>hne (aC.O6 (by rw[List.length_drop];exact h4) hBn hh)))<|(Qj) ?_
   exact af (bR rfl rfl) ⟨none,0,rfl,rfl⟩ (Sl.Sub.trans (bH (A:=Row U5 none 0 0 []) (fun w0=>Row.nil U5 w0 _)) (sub (an (.cons ar .nil)) bg))
  ·refine(Q4)<|(zy)<|(Q1) ?_
   have hBn:=aC.cA hB (2+n)
   have hDn:∀w0 h,R w0 h→aE U5 (cM p (2+n) c 1) (B.length-(2+n)) (B.drop (2+n)) w0 h:=fun w0 h hh=>eB (c:=U5) hR rfl (2+n) c omg hcap w0 h hh
   have hg0:0≤(U5.g (B.drop (2+n)) 0)∧(U5.g (B.drop (2+n)) 0)<256:=hBn.get 0
   have hg1:0≤(U5.g (B.drop (2+n)) 1)∧(U5.g (B.drop (2+n)) 1)<256:=hBn.get 1
   have hg2:0≤(U5.g (B.drop (2+n)) 2)∧(U5.g (B.drop (2+n)) 2)<256:=hBn.get 2
   have hg3:0≤(U5.g (B.drop (2+n)) 3)∧(U5.g (B.drop (2+n)) 3)<256:=hBn.get 3
   refine(Q3)<|(Gh)<|(HQ)<|(Qe)<|(QL)<|(Qg)<|(Qo)<|(Q1)<|(jV)<|(mq)<|(yB)<|(zm)<|(lU)<|(Q7w)<|(mq)<|(yB)<|(zm)<|(lU)<|(Zu)<|(Q7y)<|(mq)<|(yB)<|(zm)<|(lU) ?_
   refine(YY)<|(Zl)<|(mq)<|(yB)<|(zm)<|(lU)<|(Q7B)<|(qE)<|(lq) ?_
   refine rN TT 6 rfl<|(Q7C) ?_
   refine oV (bC (bO rfl rfl) (fun hh=>hh ((show((U5.g (B.drop (2+n)) 0)*16777216+(U5.g (B.drop (2+n)) 1)*65536+(U5.g (B.drop (2+n)) 2)*256+(U5.g (B.drop (2+n)) 3))=aC.bN (B.drop (2+n)) from rfl).trans (by rw[heq,aC.OR]))))<|(Qq) ?_
   exact af (bR rfl rfl) ⟨q22,c22,rfl,rfl⟩ (sub (aJ .nil) aj)
end Go.Proofs.YtmaiakpjgomnpaaGreat
namespace Go.Proofs.YtmaiakpjgomnpaaGreat
open Go.Sl
def V.Mb:jP Tryz.prog 173=some (256,76,1):=by kernel_rfl
def V.acE:az Tryz.prog 111=true:=by kernel_rfl
def V.Xc:az Tryz.prog 143=true:=by kernel_rfl
def V.b96:az Tryz.prog 96=true:=by kernel_rfl
def V.TO:bo Tryz.prog 175 0=some 0:=by kernel_rfl
def V.XY:eQ Tryz.prog 175=some [(0,256)]:=by kernel_rfl
def V.s76:da Tryz.prog 76=true:=by kernel_rfl
def V.z175:cW Tryz.prog 175=some (List.replicate 256 (.int .u32 0)):=by kernel_rfl
end Go.Proofs.YtmaiakpjgomnpaaGreat
namespace Go.Proofs.YtmaiakpjgomnpaaGreat
open Go.Sl 
attribute [local irreducible] ag.aq aa.gZ aa.gN aa.eg aa.gu aa.fL aa.iB

def Yi(x:Int)(hx:0≤x∧x<4294967296):aA Tryz.prog 111 [.int .u32 x] [] (aF fun v G=>v=.int .u32 (aa.gN x)∧G=[]):=by
 refine ao [(0,_)] Tryz.func111 rfl Tryz.ntmps111 rfl rfl ?_
 intro w0 F
 refine rT TT 12 rfl ?_
 rw[show((0:Nat),Value.int .u32 x)=(0,.int .u32 (aa.gZ 0 x)) from by rw[aa.No hx.1]]
 refine cF (fun(k:Nat)=>[(0,.int .u32 (aa.gZ k x)),(3,I6 (k:Int))]) (fun(k:Nat)=>F) (fun(k:Nat)=>k≤8) (fun(k:Nat)=>8-k) (i1 (0) ?_ (fF ln) (sub .nil aj)) ?_
 ·exact Nat.zero_le _
 intro k
 rintro hk
 have hs:=aa.Gv hx k
 refine(Qs) ?_
 refine av rfl (fun h4=>?_) (fun h4=>?_)
 ·refine(Qr) ?_
  refine oV (iT (r:=(aa.gZ k x)%2) rfl rfl (aa.ze hs))<|(Qc) ?_
  refine av rfl (fun h7=>?_) (fun h7=>?_)
  ·refine(Q5)<|(Q7D) ?_
   refine oV (tY (r:=aa.eg ((aa.gZ k x)/2) 3988292384) rfl rfl (aa.zG omg dec))<|(QP) ?_
   (rw[←aa.Ej (by assumption)];exact j1 (k+1) ⟨omg,omg⟩ (fF ln) (sub .nil aj))
  ·refine(Q5)<|(Q7D)<|(QP) ?_
   (rw[←aa.BR (by assumption)];exact j1 (k+1) ⟨omg,omg⟩ (fF ln) (sub .nil aj))
 ·refine(Qf) ?_
  obtain rfl:k=8:=omg
  rw[aa.L4]
  refine(Qf) ?_
  exact af (aw rfl) ⟨rfl,rfl⟩ (sub .nil aj)

def XO:aA Tryz.prog 78 [] [] (aF fun v G=>∃b,v=.pointer (soz b)∧G=[ai b 175 (CA [] .u32 aa.fL [])]):=by
 refine ao [] Tryz.func78 rfl Tryz.ntmps78 rfl rfl ?_
 intro w0 F
 refine rT TT 7 rfl<|oV (cE V.XY V.z175 rfl (cs:=ints .u32 (List.replicate 256 0)) rfl)<|jg rfl (Az _ _) rfl ?_
 intro b4
 refine(Qg) ?_
 rw[←aa.WZ]
 refine cF (fun(i:Nat)=>[(1,.pointer (soz b4)),(5,I6 (i:Int))]) (fun(i:Nat)=>ai b4 175 (CA [] .u32 (aa.iB i) [])::F) (fun(i:Nat)=>i≤256) (fun(i:Nat)=>256-i) (i1 (0) ?_ (fF ln) (sub (an .nil) aj)) ?_
 ·exact Nat.zero_le _
 intro i
 rintro hi
 have hl:=aa.Ck (i:=i) omg
 refine(Qs) ?_
 refine av rfl (fun h6=>?_) (fun h6=>?_)
 ·refine(QN) ?_
  refine wN [pz 0 [] [1],pz 0 [] [2],pz 0 [] [2],pz 4 [2] [],pz 12 [3] [],pz 1 [0] [],pz 33 [5] [],pz 127 [6,1] [],pz 255 [7,4] []] [⟨fun y=>ai b4 175 (CA [] .u32 (aa.iB i) []),none,some 8,[]⟩,⟨fun y=>ai b4 175 (CA [] .u32 ((aa.iB i).set (((i:Int)).toNat) (aa.gN (i:Int))) []),some 8,none,[]⟩] F V.mixed ?_
  iterate 3 refine nM ?_
  refine nV (fun y hA L=>cS V.u3 Tryz.underlying76 rfl (aC.wrap32 omg omg)) ?_
  refine nE (fun y FF hA=>aO (Post:=[]) (Yi (i:Int) omg) V.acE rfl .nil (fun v G h=>by rcases h with⟨rfl,rfl⟩;exact⟨rfl,.refl _⟩)) ?_
  refine nN ?_
  refine nG V.TO ?_
  refine nV (fun y hA L=>bZ i rfl V.Mb rfl rfl omg) ?_
  refine nE (fun y FF hA=>dm (om (i:Int) V.s76 rfl rfl (by exact ft) (by(simp only[List.length_cons,List.length_nil];omega)) omg omg) ⟨rfl,.refl _⟩) ?_
  refine(Qi) ?_
  intro y hA
  clear hA
  show ks _ _ _ _ (ai b4 175 (CA [] .u32 ((aa.iB i).set (((i:Int)).toNat) (aa.gN (i:Int))) [])::F)
  refine(MP)<|(sF)<|(Q8) ?_
  refine ga ?_
  rw[show List.set (aa.iB i) ((i:Int)).toNat (aa.gN (i:Int))=aa.iB (i+1) from aa.JT omg]
  refine j1 (i+1) ?_ (fF ln) (sub (an .nil) aj)
  exact⟨omg,omg⟩
 ·refine(Qf) ?_
  obtain rfl:i=256:=omg
  rw[aa.OZ]
  refine(Qf) ?_
  exact af (aw rfl) ⟨_,rfl,rfl⟩ (sub (an .nil) aj)

def Jy(bt:Nat)(p:Option Addr)(c:Nat)(B:List Int)(R:ad)(hR:∀w0 h,R w0 h→aE U5 p B.length B w0 h)(hl:B.length<500000000)(hB:ag.aq B)(s:Int)(hs0:0≤s∧s<4294967296):aA Tryz.prog 143 [.pointer (soz bt),.int .u32 s,.slice p B.length c] [ai bt 175 (CA [] .u32 aa.fL []),R] (aF fun v G=>v=.int .u32 (aa.sQ s B)∧G=[ai bt 175 (CA [] .u32 aa.fL []),R]):=by
 refine ao [(0,_),(1,_),(2,_)] Tryz.func143 rfl Tryz.ntmps143 rfl rfl ?_
 intro w0 F
 have htl:=aa.PT
 refine(mz) ?_
 refine oV (cn (v:=.bool false) (yj Tryz.underlying131 rfl rfl) rfl)<|(Qe) ?_
 refine oV (Ar (r:=4294967295-s) rfl rfl (aa.F9 omg))<|(Qy) ?_
 rw[show((1:Nat),Value.int .u32 (4294967295-s))=(1,.int .u32 (aa.gu (4294967295-s) (B.take 0))) from by rw[List.take_zero];unfold aa.gu;rfl]
 refine cF (fun(i:Nat)=>[(0,.pointer (soz bt)),(1,.int .u32 (aa.gu (4294967295-s) (B.take i))),(13,.slice p B.length c),(14,I6 (B.length:Int)),(15,I6 (i:Int))]) (fun(i:Nat)=>ai bt 175 (CA [] .u32 aa.fL [])::R::F) (fun(i:Nat)=>i≤B.length) (fun(i:Nat)=>B.length-i) (i1 (0) ?_ (bb ln) (sub (aJ .nil) aj)) ?_
 ·exact Nat.zero_le _
 intro i
 rintro hi
 refine(Qs) ?_
 refine av rfl (fun h16=>?_) (fun h16=>?_)
 ·refine(Qf) ?_
  refine oV (xI V.bT (by exact bK hR cX))<|oV (xL V.s5 (by exact bK hR cX))<|(Qc) ?_
  have hv:0≤(U5.g B (i:Int))∧(U5.g B (i:Int))<256:=hB.get i
  have hs:=aa.qy (l:=B.take i) (s:=(4294967295-s)) (aa.dS hB i) omg
  have hix:=aa.SZ (a:=(aa.gu (4294967295-s) (B.take i))%256) (b:=(U5.g B (i:Int))) omg hv
  have hrw:=aa.C5 (x:=(aa.eg ((aa.gu (4294967295-s) (B.take i))%256) (U5.g B (i:Int)))) omg
  refine(Q3)<|(zq)<|(Q8) ?_
  refine oV (tY (r:=(aa.eg ((aa.gu (4294967295-s) (B.take i))%256) (U5.g B (i:Int)))) rfl rfl (aa.acC omg hv))<|(Q9) ?_
  refine oV (bZ (((aa.eg ((aa.gu (4294967295-s) (B.take i))%256) (U5.g B (i:Int)))).toNat) omg V.Mb rfl rfl omg)<|oV (eh (aa.eg ((aa.gu (4294967295-s) (B.take i))%256) (U5.g B (i:Int))) V.s76 rfl ay (by(simp only[List.length_cons,List.length_nil];omega)) omg omg) ?_
  rw[aa.KC hix]
  refine(Q8) ?_
  refine oV (eF (r:=(aa.gu (4294967295-s) (B.take i))/256) rfl rfl dec (aa.ob (n:=8) rfl dec rfl))<|oV (tY (r:=aa.eg (aa.gN (aa.eg ((aa.gu (4294967295-s) (B.take i))%256) (U5.g B (i:Int)))) ((aa.gu (4294967295-s) (B.take i))/256)) rfl rfl (aa.zG hrw omg))<|(QP) ?_
  have ht:=aa.Av (l:=B) (s:=(4294967295-s)) (i:=i) omg
  rw[show B.getD i 0=(U5.g B (i:Int)) from rfl] at ht
  rw[aa.Hy hs.1 hv] at ht
  rw[←ht]
  exact j1 (i+1) ⟨omg,omg⟩ (bb ln) (sub (aJ .nil) aj)
 ·refine(Qf) ?_
  obtain rfl:i=B.length:=omg
  rw[List.take_length]
  have hs:=aa.qy (l:=B) (s:=(4294967295-s)) hB omg
  refine(Q5)<|(Q7E)<|(Q7) ?_
  exact af (aw rfl) ⟨by unfold aa.sQ;rfl,rfl⟩ (sub (aJ .nil) aj)

def N1(p:Option Addr)(c:Nat)(B:List Int)(R:ad)(hR:∀w0 h,R w0 h→aE U5 p B.length B w0 h)(hl:B.length<500000000)(hB:ag.aq B)(s:Int)(hs0:0≤s∧s<4294967296):aA Tryz.prog 96 [.int .u32 s,.slice p B.length c] [R] (aF fun v G=>v=.int .u32 (aa.sQ s B)∧G=[R]):=by
 refine ao [(0,_),(1,_)] Tryz.func96 rfl Tryz.ntmps96 rfl rfl ?_
 intro w0 F
 refine(QQ) ?_
 refine oV (Ar (r:=4294967295-s) rfl rfl (aa.F9 omg))<|(Qg) ?_
 rw[show((0:Nat),Value.int .u32 (4294967295-s))=(0,.int .u32 (aa.gu (4294967295-s) (B.take 0))) from by rw[List.take_zero];unfold aa.gu;rfl]
 refine cF (fun(i:Nat)=>[(0,.int .u32 (aa.gu (4294967295-s) (B.take i))),(1,.slice p B.length c),(5,I6 (i:Int))]) (fun(i:Nat)=>R::F) (fun(i:Nat)=>i≤B.length) (fun(i:Nat)=>B.length-i) (i1 (0) ?_ (eo ln) (sub (an .nil) aj)) ?_
 ·exact Nat.zero_le _
 intro i
 rintro hi
 refine(pe) ?_
 refine av rfl (fun h13=>?_) (fun h13=>?_)
 ·refine(Qb) ?_
  have hv:0≤(U5.g B (i:Int))∧(U5.g B (i:Int))<256:=hB.get i
  have hs:=aa.qy (l:=B.take i) (s:=(4294967295-s)) (aa.dS hB i) omg
  refine(Q4)<|(GS)<|(I1)<|(VK) ?_
  refine oV (tY (r:=(aa.eg (aa.gu (4294967295-s) (B.take i)) (U5.g B (i:Int)))) rfl rfl (aa.zG hs omg))<|(Q7) ?_
  have hxc:=aa.OY (a:=(aa.gu (4294967295-s) (B.take i))) (b:=(U5.g B (i:Int))) hs omg
  refine(Qb) ?_
  rw[show((0:Nat),Value.int .u32 (aa.eg (aa.gu (4294967295-s) (B.take i)) (U5.g B (i:Int))))=(0,.int .u32 (aa.gZ 0 (aa.eg (aa.gu (4294967295-s) (B.take i)) (U5.g B (i:Int))))) from by rw[aa.No hxc.1]]
  refine cF (fun(k:Nat)=>[(0,.int .u32 (aa.gZ k (aa.eg (aa.gu (4294967295-s) (B.take i)) (U5.g B (i:Int))))),(1,.slice p B.length c),(5,I6 (i:Int)),(6,I6 (k:Int))]) (fun(k:Nat)=>R::F) (fun(k:Nat)=>k≤8) (fun(k:Nat)=>8-k) (i1 (0) ?_ (cK ln) (sub (an .nil) aj)) ?_
  ·exact Nat.zero_le _
  intro k
  rintro hk
  refine(qP) ?_
  refine av rfl (fun h24=>?_) (fun h24=>?_)
  ·refine(Qb) ?_
   have hk2:=aa.Gv hxc k
   refine(Q5) ?_
   refine oV (iT (r:=(aa.gZ k (aa.eg (aa.gu (4294967295-s) (B.take i)) (U5.g B (i:Int))))%2) rfl rfl (aa.ze hk2))<|(Q1) ?_
   refine oV (eF (r:=(aa.gZ k (aa.eg (aa.gu (4294967295-s) (B.take i)) (U5.g B (i:Int))))/2) rfl rfl dec (aa.ob (n:=1) rfl dec rfl))<|(Qn) ?_
   refine av rfl (fun h32=>?_) (fun h32=>?_)
   ·refine(Q5) ?_
    refine oV (tY (r:=aa.eg ((aa.gZ k (aa.eg (aa.gu (4294967295-s) (B.take i)) (U5.g B (i:Int))))/2) 3988292384) rfl rfl (aa.zG omg dec))<|(QU) ?_
    (rw[←aa.Ej (by assumption)];exact j1 (k+1) ⟨omg,omg⟩ (cK ln) (sub (an .nil) aj))
   ·refine(r9) ?_
    (rw[←aa.BR (by assumption)];exact j1 (k+1) ⟨omg,omg⟩ (cK ln) (sub (an .nil) aj))
  ·refine(Qf) ?_
   obtain rfl:k=8:=omg
   refine mf TT 5 rfl omg ?_
   have ht:=aa.Av (l:=B) (s:=(4294967295-s)) (i:=i) omg
   rw[show B.getD i 0=(U5.g B (i:Int)) from rfl] at ht
   rw[aa.L4,←ht]
   exact j1 (i+1) ⟨omg,omg⟩ (eo ln) (sub (an .nil) aj)
 ·refine(Qf) ?_
  obtain rfl:i=B.length:=omg
  rw[List.take_length]
  have hs:=aa.qy (l:=B) (s:=(4294967295-s)) hB omg
  refine(Q5)<|(Q7E)<|(Q7) ?_
  exact af (aw rfl) ⟨by unfold aa.sQ;rfl,rfl⟩ (sub (an .nil) aj)

def RS(bt:Nat)(kk:List Int)(hk:ag.aq kk)(hkl:kk.length<500000000)(p:Option Addr)(c:Nat)(B:List Int)(R:ad)(hR:∀w0 h,R w0 h→aE U5 p B.length B w0 h)(hl:B.length<500000000)(hB:ag.aq B):aA Tryz.prog 109 [.pointer (soz bt),.string (strOfNums kk),.slice p B.length c] [ai bt 175 (CA [] .u32 aa.fL []),R] (aF fun v G=>v=.int .u32 (aa.gQ kk B)∧G=[ai bt 175 (CA [] .u32 aa.fL []),R]):=by
 refine ao [(0,_),(1,_),(2,_)] Tryz.func109 rfl Tryz.ntmps109 rfl rfl ?_
 intro w0 F
 have hm:=aa.wK (s:=0) dec hk
 refine(uL)<|(Q7F) ?_
 intro b10 c10
 refine oC (Jy bt (soz b10) c10 kk (aE U5 (soz b10) kk.length kk) (fun _ _ hh=>hh) hkl hk 0 dec) V.Xc rfl (.cons ar (an .nil)) rfl<|(Q8) ?_
 refine oC (Jy bt p c B R hR hl hB (aa.sQ 0 kk) hm) V.Xc rfl (an (.cons ar .nil)) rfl<|(Q7) ?_
 exact af (aw rfl) ⟨by unfold aa.gQ;rfl,rfl⟩ (sub (aJ .nil) bg)

def DQ(kk:List Int)(hk:ag.aq kk)(hkl:kk.length<500000000)(p:Option Addr)(c:Nat)(B:List Int)(R:ad)(hR:∀w0 h,R w0 h→aE U5 p B.length B w0 h)(hl:B.length<500000000)(hB:ag.aq B):aA Tryz.prog 66 [.string (strOfNums kk),.slice p B.length c] [R] (aF fun v G=>v=.int .u32 (aa.gQ kk B)∧G=[R]):=by
 refine ao [(0,_),(1,_)] Tryz.func66 rfl Tryz.ntmps66 rfl rfl ?_
 intro w0 F
 have hm:=aa.wK (s:=0) dec hk
 refine(QQ)<|(Q7F) ?_
 intro b6 c6
 refine oC (N1 (soz b6) c6 kk (aE U5 (soz b6) kk.length kk) (fun _ _ hh=>hh) hkl hk 0 dec) V.b96 rfl (an .nil) rfl<|(Q8) ?_
 refine oC (N1 p c B R hR hl hB (aa.sQ 0 kk) hm) V.b96 rfl (.cons ar .nil) rfl<|(Q7) ?_
 exact af (aw rfl) ⟨by unfold aa.gQ;rfl,rfl⟩ (sub (an .nil) bg)
end Go.Proofs.YtmaiakpjgomnpaaGreat
namespace Go.Proofs.YtmaiakpjgomnpaaGreat
open Go.Sl
def V.SP:az Tryz.prog 142=true:=by kernel_rfl
end Go.Proofs.YtmaiakpjgomnpaaGreat

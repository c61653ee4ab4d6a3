/- Walks of functions that the law reaches, and what they lean on; no conditions. -/
import Derived.Test.YtmaiakpjgomnpaaGreatM5
set_option linter.defProp false
set_option maxHeartbeats 16000000
set_option maxRecDepth 100000
set_option linter.unusedVariables false
set_option linter.unusedSimpArgs false
set_option maxRecDepth 100000
namespace Go.Proofs.YtmaiakpjgomnpaaGreat
open Go.Sl 
attribute [local irreducible] ae.ord ae.jf ae.df ae.bV ae.cU ae.words ae.fZ ae.lenOf ae.bp ae.gT
attribute [local irreducible] ae.fK ae.sy

def MO(p:Option Addr)(cap:Nat)(ls:List Int)(R:ad)(hR:∀w0 h,R w0 h→aE I3 p ls.length ls w0 h):aA Tryz.prog 154 [.slice p ls.length cap] [R] (aF fun v G=>(ae.bp ls=0∧∃b,v=.tuple #[.pointer (soz b),.int .i64 0]∧G=[RC b ls,R])∨(ae.bp ls≠0∧v=.tuple #[.pointer none,.int .i64 (ae.bp ls)]∧G=[R])):=by
 refine ao [(0,_)] Tryz.func154 rfl Tryz.ntmps154 rfl rfl ?_
 intro w0 F
 refine rT TT 14 rfl ?_
 refine av rfl (fun h13=>?_) (fun h13=>?_)
 ·refine(pB) ?_
  exact af (bR rfl rfl) (.inr ⟨by rw[ae.pD omg];decide,by rw[ae.pD omg],rfl⟩) (sub (an .nil) aj)
 ·refine(Q4) ?_
  refine oV (cE V.Yp V.acU rfl (cs:=[_,_,_,_,_,_,_,_,_,_,_,_,_,_,_,_,_,_]) rfl)<|jg rfl (show _=CA [] .i64 (ae.fK (ls.take 0)) [.slice none 0 0,.slice none 0 0] from by rw[List.take_zero,ae.KR];rfl) rfl ?_
  intro iN
  refine(QC) ?_
  refine gL (Row I3 none 0 0 (ls.take 0)) (Row.nil _ _ _) ?_
  rw[show((5:Nat),Value.int .i64 0)=(5,.int .i64 ((ae.df (ls.take 0)).length:Int)) from by rw[List.take_zero,ae.uZ];rfl]
  refine dP (fun(k:Nat) (pl:Option Addr) (cl:Nat)=>[(0,.slice p ls.length cap),(4,.pointer (soz iN)),(5,.int .i64 ((ae.df (ls.take k)).length:Int)),(6,.int .i64 (k:Int))]) (fun(k:Nat) (pl:Option Addr) (cl:Nat)=>ai iN 231 (CA [] .i64 (ae.fK (ls.take k)) [.slice none 0 0,.slice pl k cl])::Row I3 pl k cl (ls.take k)::R::F) (fun(k:Nat) (pl:Option Addr) (cl:Nat)=>k≤ls.length∧∀i,i<k→0≤ls.getD i 0∧ls.getD i 0≤15) (fun(k:Nat) (pl:Option Addr) (cl:Nat)=>ls.length-k) (i3 (0) (none) (0) ?_ (cK ln) (sub (.cons ar (aJ .nil)) aj)) ?_
  ·exact⟨omg,fun i hi=>by omega⟩
  intro k pl cl
  rintro⟨hk,hok⟩
  refine(pe) ?_
  refine av rfl (fun h19=>?_) (fun h19=>?_)
  ·refine(Qf) ?_
   have hk2:k<ls.length:=omg
   have hg:I3.g ls (k:Int)=ls.getD k 0:=by simp[Ec.g]
   have hg2:ls.getD k 0=ls[k]:=by simp[hk2]
   have htk:(ls.take k).length=k:=by rw[List.length_take];omega
   have hcl:=ae.kF (ls.take k)
   have hcb:=ae.FB (ls:=ls.take k) omg (I3.g ls (k:Int)).toNat
   have hpl2:=ae.tQ (ls.take k)
   refine(Q3) ?_
   refine oV (xI V.cy (by exact bK hR dz))<|oV (xL V.s3 (by exact bK hR dz))<|(Q9) ?_
   refine ev 27 rfl (fun h27=>?_) (fun h27=>?_)
   ·exact rO TT 22 rfl<|af (bR rfl rfl) (.inr ⟨by rw[ae.kG omg hk2 omg];decide,by rw[ae.kG omg hk2 omg],rfl⟩) (sub (.cons aL .nil) dC)
   ·refine(Qm) ?_
    refine oV (xI V.cy (by exact bK hR dz))<|(Q0) ?_
    refine oV (xL V.s3 (by exact bK hR dz))<|(Q7) ?_
    refine av rfl (fun h33=>?_) (fun h33=>?_)
    ·refine(oZ) ?_
     exact af (bR rfl rfl) (.inr ⟨by rw[ae.kG omg hk2 omg];decide,by rw[ae.kG omg hk2 omg],rfl⟩) (sub (.cons aL .nil) dC)
    ·refine(Q3) ?_
     refine wN [pz 0 [] [4],pz 0 [] [0],pz 0 [] [6],pz 6 [1,2] [],pz 14 [3] [],pz 1 [0] [],pz 33 [5] [],pz 127 [6,4] [],pz 255 [7] [],pz 511 [8] [],pz 1 [0] [],pz 1025 [10] [],pz 4095 [11,4] [],pz 8191 [12,9] []] [⟨fun y=>ai iN 231 (CA [] .i64 (ae.fK (ls.take k)) [.slice none 0 0,.slice pl k cl]),none,some 13,[8]⟩,⟨fun y=>Row I3 pl k cl (ls.take k),none,none,[]⟩,⟨fun y=>R,none,none,[3,4]⟩,⟨fun y=>ai iN 231 (CA [] .i64 ((ae.fK (ls.take k)).set ((((I3).g ls (k:Int))).toNat) (((ae.fK (ls.take k)).getD ((((I3).g ls (k:Int))).toNat) 0)+1)) [.slice none 0 0,.slice pl k cl]),some 13,none,[]⟩] F V.mixed ?_
     iterate 3 refine nM ?_
     refine nR (fun y FF hA=>xI V.cy (by exact bK hR ay)) ?_
     refine nR (fun y FF hA=>xL V.s3 (by exact bK hR ay)) ?_
     refine nN ?_
     refine nG V.tv ?_
     refine nV (fun y hA L=>bZ ((((I3).g ls (k:Int))).toNat) omg V.j0 rfl rfl omg) ?_
     refine nR (fun y FF hA=>eh ((I3).g ls (k:Int)) V.s3 rfl ay (by(simp only[List.length_cons,List.length_nil];omega)) omg omg) ?_
     refine nV (fun y hA L=>dw rfl rfl wI) ?_
     refine nN ?_
     refine nG V.tv ?_
     refine nV (fun y hA L=>bZ ((((I3).g ls (k:Int))).toNat) omg V.j0 rfl rfl omg) ?_
     refine nE (fun y FF hA=>dm (om ((I3).g ls (k:Int)) V.s3 rfl rfl (by exact ft) (by(simp only[List.length_cons,List.length_nil];omega)) omg omg) ⟨rfl,.refl _⟩) ?_
     refine cZ ?_
     intro y hA
     clear hA
     refine bJ<|(Q6Q) ?_
     refine bA (M:=Row I3 pl k cl (ls.take k)::R::ai iN 231 (CA [] .i64 ((ae.fK (ls.take k)).set ((((I3).g ls (k:Int))).toNat) (((ae.fK (ls.take k)).getD ((((I3).g ls (k:Int))).toNat) 0)+1)) [.slice none 0 0,.slice pl k cl])::F) (fun _ _ h=>h)<|(Qb) ?_
     refine oV (xI V.cy (by exact bK hR cX))<|oV (xL V.s3 (by exact bK hR cX))<|(Qc) ?_
     refine av rfl (fun h51=>?_) (fun h51=>?_)
     ·refine(EE)<|(Z7) ?_
      iterate 2 refine nM ?_
      refine nN<|nG V.xu<|(Y3) ?_
      iterate 2 refine nM ?_
      refine(Oj)<|(NU)<|(Q6T)<|(Q6U) ?_
      refine nN<|nG V.xu<|(Q6V)<|(Qi) ?_
      intro y hA
      clear hA
      show ks _ _ _ _ (R::Row (I3) (some ⟨(iK (ej (y 9))),0,none⟩) 1 1 [((I3).g ls (k:Int))]::Row (I3) (ej (y 10)) (k+1) (fT (y 10)) ((ls.take k)++[((I3).g ls (k:Int))])::ai iN 231 (CA [] .i64 ((ae.fK (ls.take k)).set ((((I3).g ls (k:Int))).toNat) (((ae.fK (ls.take k)).getD ((((I3).g ls (k:Int))).toNat) 0)+1)) [.slice none 0 0,.slice (ej (y 10)) (k+1) (fT (y 10))])::F)
      generalize(iK (ej (y 9)))=NA
      generalize(ej (y 10))=p64
      generalize(fT (y 10))=c64
      refine(uR)<|(sF)<|(tu) ?_
      have hok2:=ae.tH hok omg
      rw[ae.zA hk2 (hg.trans hg2) omg omg,ae.kP hk2 (hg.trans hg2)]
      (rw[ae.Ka hk2 (hg.trans hg2) omg];exact j3 (k+1) _ _ ⟨⟨omg,hok2⟩,omg⟩ (cK ln) (sub (.cons cB (.cons aL (an .nil))) bg))
     ·refine(Q5)<|(Z7) ?_
      iterate 2 refine nM ?_
      refine nN<|nG V.xu<|(Y3) ?_
      iterate 2 refine nM ?_
      refine(Oj)<|(NU)<|(Q6T)<|(Q6U) ?_
      refine nN<|nG V.xu<|(Q6V)<|(Qi) ?_
      intro y hA
      clear hA
      show ks _ _ _ _ (R::Row (I3) (some ⟨(iK (ej (y 9))),0,none⟩) 1 1 [((I3).g ls (k:Int))]::Row (I3) (ej (y 10)) (k+1) (fT (y 10)) ((ls.take k)++[((I3).g ls (k:Int))])::ai iN 231 (CA [] .i64 ((ae.fK (ls.take k)).set ((((I3).g ls (k:Int))).toNat) (((ae.fK (ls.take k)).getD ((((I3).g ls (k:Int))).toNat) 0)+1)) [.slice none 0 0,.slice (ej (y 10)) (k+1) (fT (y 10))])::F)
      generalize(iK (ej (y 9)))=NA
      generalize(ej (y 10))=p64
      generalize(fT (y 10))=c64
      refine(uR)<|(sF)<|(tu) ?_
      have hok2:=ae.tH hok omg
      rw[ae.zA hk2 (hg.trans hg2) omg omg,ae.kP hk2 (hg.trans hg2)]
      (rw[ae.HI hk2 (hg.trans hg2) omg];exact j3 (k+1) _ _ ⟨⟨omg,hok2⟩,omg⟩ (cK ln) (sub (.cons cB (.cons aL (an .nil))) bg))
  ·refine(Qf) ?_
   have hkn:k=ls.length:=omg
   subst hkn
   rw[List.take_length] at*
   have hvv:=ae.Ey hok (Nat.le_refl _)
   have hcl:=ae.kF ls
   have hcl2:=ae.iL ls
   have hE0:=ae.Eo omg hvv
   have hCb:=ae.mm (ls:=ls) omg
   refine(Q4) ?_
   refine oV (bZ 0 rfl V.j0 rfl rfl omg)<|cC (om (0:Int) V.s3 rfl rfl (by exact ft) (by(simp only[List.length_cons,List.length_nil];omega)) omg omg)<|(Qc) ?_
   rw[ae.KA]
   refine(lW) ?_
   refine cF (fun(k:Nat)=>[(0,.slice p ls.length cap),(4,.pointer (soz iN)),(5,.int .i64 ((ae.df ls).length:Int)),(7,.int .i64 (ae.left (ae.bV ls) k)),(8,.int .i64 ((k:Int)+1))]) (fun(k:Nat)=>ai iN 231 (CA [] .i64 (ae.bV ls) [.slice none 0 0,.slice pl ls.length cl])::Row I3 pl ls.length cl ls::R::F) (fun(k:Nat)=>k≤15∧∀m,1≤m→m≤k→0≤ae.left (ae.bV ls) m) (fun(k:Nat)=>15-k) (i1 (0) ?_ (bb ln) (sub (dV .nil) aj)) ?_
   ·exact⟨omg,fun m h1 h2=>by omega⟩
   intro k
   rintro⟨hk,hno⟩
   have hcc:=hCb ((k:Int)+1).toNat
   have hc1:=hCb (Int.toNat 1)
   have hlb:=ae.wo (fun i=>(hCb i).1) hk
   have hl0:=ae.EG hno
   refine(qP) ?_
   refine av rfl (fun h72=>?_) (fun h72=>?_)
   ·refine(EL) ?_
    refine oV (bZ (k+1) rfl V.j0 rfl rfl omg)<|(Zy)<|(uM) ?_
    refine av rfl (fun h85=>?_) (fun h85=>?_)
    ·refine(qG) ?_
     have hE:ae.bp ls=4:=by rw[hE0,ae.vH (n:=k+1) omg omg (by rw[←ae.nu];exact h85)];rfl
     exact af (bR rfl rfl) (.inr ⟨by rw[hE];decide,by rw[hE],rfl⟩) (sub (.cons aL .nil) dC)
    ·refine(r9) ?_
     have hno2:=ae.zC hno h85
     rw[ae.nu]
     exact j1 (k+1) ⟨⟨omg,hno2⟩,omg⟩ (bb ln) (sub (dV .nil) aj)
   ·refine(lW) ?_
    refine ev 88 rfl (fun h88=>?_) (fun h88=>?_)
    ·refine(Qc) ?_
     refine ev 91 rfl (fun h91=>?_) (fun h91=>?_)
     ·refine rO TT 20 rfl ?_
      have hE:ae.bp ls=0:=by rw[hE0,ae.ji hk h72 hno];simp only[Bool.or_eq_true,Bool.and_eq_true,decide_eq_true_eq];rw[if_pos omg]
      refine(Qb)<|(VW) ?_
      refine dP (fun(m:Nat) (ps:Option Addr) (cs:Nat)=>[(0,.slice p ls.length cap),(4,.pointer (soz iN)),(9,.int .i64 ((m:Int)+1))]) (fun(m:Nat) (ps:Option Addr) (cs:Nat)=>ai iN 231 (CA [] .i64 (ae.bV ls) [.slice ps (ae.dW ls m).length cs,.slice pl ls.length cl])::Row I3 ps (ae.dW ls m).length cs (ae.dW ls m)::Row I3 pl ls.length cl ls::R::F) (fun(m:Nat) (ps:Option Addr) (cs:Nat)=>m≤15) (fun(m:Nat) (ps:Option Addr) (cs:Nat)=>15-m) (i3 (0) (none) (0) ?_ (eo ln) (sub (.cons ar (dV .nil)) aj)) ?_
      ·exact Nat.zero_le _
      intro m ps cs
      rintro hm
      refine(qP) ?_
      refine av rfl (fun h106=>?_) (fun h106=>?_)
      ·refine(QN) ?_
       rw[←ae.x8]
       refine dP (fun(i:Nat) (ps:Option Addr) (cs:Nat)=>[(0,.slice p ls.length cap),(4,.pointer (soz iN)),(9,.int .i64 ((m:Int)+1)),(10,.int .i64 (i:Int))]) (fun(i:Nat) (ps:Option Addr) (cs:Nat)=>ai iN 231 (CA [] .i64 (ae.bV ls) [.slice ps (ae.sy ls m i).length cs,.slice pl ls.length cl])::Row I3 ps (ae.sy ls m i).length cs (ae.sy ls m i)::Row I3 pl ls.length cl ls::R::F) (fun(i:Nat) (ps:Option Addr) (cs:Nat)=>i≤ls.length) (fun(i:Nat) (ps:Option Addr) (cs:Nat)=>ls.length-i) (i3 (0) (_) (_) ?_ (cK ln) (sub (jm .nil) aj)) ?_
       ·exact Nat.zero_le _
       intro i ps cs
       rintro hi
       refine(pe) ?_
       refine av rfl (fun h112=>?_) (fun h112=>?_)
       ·refine(Qb) ?_
        have hi2:i<ls.length:=omg
        have hg:I3.g ls (i:Int)=ls.getD i 0:=by simp[Ec.g]
        have hg2:ls.getD i 0=ls[i]:=by simp[hi2]
        have hsy:=ae.FI (ls:=ls) (m:=m) (i:=i) omg omg
        refine(Q3)<|(T3)<|(Q7) ?_
        refine av rfl (fun h120=>?_) (fun h120=>?_)
        ·refine(Qb)<|(Nj)<|(Q8)<|(Ur) ?_
         intro Aj
         refine(MZ) ?_
         intro p128 c128
         refine(Q9)<|(To)<|(QP) ?_
         (rw[ae.wJ hi2 (hg.trans hg2) omg,ae.z7 hi2 (hg.trans hg2) omg];exact j3 (i+1) _ _ ⟨omg,omg⟩ (cK ln) (sub (.cons aL (an (.cons ar (.cons ar .nil)))) bg))
        ·refine(r9) ?_
         (rw[ae.Fy hi2 (hg.trans hg2) omg];exact j3 (i+1) _ _ ⟨omg,omg⟩ (cK ln) (sub (jm .nil) aj))
       ·refine(wM) ?_
        rw[ae.Ah omg]
        refine j3 (m+1) (_) (_) ?_ (eo ln) (sub (jm .nil) aj)
        exact⟨omg,omg⟩
      ·refine(oZ) ?_
       have hm15:m=15:=omg
       subst hm15
       rw[ae.FA]
       exact af (bR rfl rfl) (.inl ⟨hE,iN,rfl,rfl⟩) ((aS (dV .nil) aj (fun w0 h hh=>lL hh)).trans (sub (aJ .nil) aj))
     ·refine(Qc) ?_
      refine ev 94 rfl (fun h94=>?_) (fun h94=>?_)
      ·refine(Qk) ?_
       refine oV (bZ 1 rfl V.j0 rfl rfl omg)<|(Q0)<|(Q6G)<|(Qk) ?_
       refine oV (A8 rfl)<|(Qc) ?_
       refine av rfl (fun h104=>?_) (fun h104=>?_)
       ·refine(pB) ?_
        have hE:ae.bp ls=4:=by rw[hE0,ae.ji hk h72 hno];simp only[Bool.or_eq_true,Bool.and_eq_true,decide_eq_true_eq];rw[if_neg omg]
        exact af (bR rfl rfl) (.inr ⟨by rw[hE];decide,by rw[hE],rfl⟩) (sub (.cons aL .nil) dC)
       ·refine(Q4) ?_
        have hE:ae.bp ls=0:=by rw[hE0,ae.ji hk h72 hno];simp only[Bool.or_eq_true,Bool.and_eq_true,decide_eq_true_eq];rw[if_pos omg]
        refine(Qb)<|(VW) ?_
        refine dP (fun(m:Nat) (ps:Option Addr) (cs:Nat)=>[(0,.slice p ls.length cap),(4,.pointer (soz iN)),(9,.int .i64 ((m:Int)+1))]) (fun(m:Nat) (ps:Option Addr) (cs:Nat)=>ai iN 231 (CA [] .i64 (ae.bV ls) [.slice ps (ae.dW ls m).length cs,.slice pl ls.length cl])::Row I3 ps (ae.dW ls m).length cs (ae.dW ls m)::Row I3 pl ls.length cl ls::R::F) (fun(m:Nat) (ps:Option Addr) (cs:Nat)=>m≤15) (fun(m:Nat) (ps:Option Addr) (cs:Nat)=>15-m) (i3 (0) (none) (0) ?_ (eo ln) (sub (.cons ar (dV .nil)) aj)) ?_
        ·exact Nat.zero_le _
        intro m ps cs
        rintro hm
        refine(qP) ?_
        refine av rfl (fun h106=>?_) (fun h106=>?_)
        ·refine(QN) ?_
         rw[←ae.x8]
         refine dP (fun(i:Nat) (ps:Option Addr) (cs:Nat)=>[(0,.slice p ls.length cap),(4,.pointer (soz iN)),(9,.int .i64 ((m:Int)+1)),(10,.int .i64 (i:Int))]) (fun(i:Nat) (ps:Option Addr) (cs:Nat)=>ai iN 231 (CA [] .i64 (ae.bV ls) [.slice ps (ae.sy ls m i).length cs,.slice pl ls.length cl])::Row I3 ps (ae.sy ls m i).length cs (ae.sy ls m i)::Row I3 pl ls.length cl ls::R::F) (fun(i:Nat) (ps:Option Addr) (cs:Nat)=>i≤ls.length) (fun(i:Nat) (ps:Option Addr) (cs:Nat)=>ls.length-i) (i3 (0) (_) (_) ?_ (cK ln) (sub (jm .nil) aj)) ?_
         ·exact Nat.zero_le _
         intro i ps cs
         rintro hi
         refine(pe) ?_
         refine av rfl (fun h112=>?_) (fun h112=>?_)
         ·refine(Qb) ?_
          have hi2:i<ls.length:=omg
          have hg:I3.g ls (i:Int)=ls.getD i 0:=by simp[Ec.g]
          have hg2:ls.getD i 0=ls[i]:=by simp[hi2]
          have hsy:=ae.FI (ls:=ls) (m:=m) (i:=i) omg omg
          refine(Q3)<|(T3)<|(Q7) ?_
          refine av rfl (fun h120=>?_) (fun h120=>?_)
          ·refine(Qb)<|(Nj)<|(Q8)<|(Ur) ?_
           intro Aj
           refine(MZ) ?_
           intro p128 c128
           refine(Q9)<|(To)<|(QP) ?_
           (rw[ae.wJ hi2 (hg.trans hg2) omg,ae.z7 hi2 (hg.trans hg2) omg];exact j3 (i+1) _ _ ⟨omg,omg⟩ (cK ln) (sub (.cons aL (an (.cons ar (.cons ar .nil)))) bg))
          ·refine(r9) ?_
           (rw[ae.Fy hi2 (hg.trans hg2) omg];exact j3 (i+1) _ _ ⟨omg,omg⟩ (cK ln) (sub (jm .nil) aj))
         ·refine(wM) ?_
          rw[ae.Ah omg]
          refine j3 (m+1) (_) (_) ?_ (eo ln) (sub (jm .nil) aj)
          exact⟨omg,omg⟩
        ·refine(oZ) ?_
         have hm15:m=15:=omg
         subst hm15
         rw[ae.FA]
         exact af (bR rfl rfl) (.inl ⟨hE,iN,rfl,rfl⟩) ((aS (dV .nil) aj (fun w0 h hh=>lL hh)).trans (sub (aJ .nil) aj))
      ·refine rO TT 21 rfl ?_
       have hE:ae.bp ls=4:=by rw[hE0,ae.ji hk h72 hno];simp only[Bool.or_eq_true,Bool.and_eq_true,decide_eq_true_eq];rw[if_neg omg]
       exact af (bR rfl rfl) (.inr ⟨by rw[hE];decide,by rw[hE],rfl⟩) (sub (.cons aL .nil) dC)
    ·refine rO TT 23 rfl ?_
     have hE:ae.bp ls=0:=by rw[hE0,ae.ji hk h72 hno];simp only[Bool.or_eq_true,Bool.and_eq_true,decide_eq_true_eq];rw[if_pos omg]
     refine(Qb)<|(VW) ?_
     refine dP (fun(m:Nat) (ps:Option Addr) (cs:Nat)=>[(0,.slice p ls.length cap),(4,.pointer (soz iN)),(9,.int .i64 ((m:Int)+1))]) (fun(m:Nat) (ps:Option Addr) (cs:Nat)=>ai iN 231 (CA [] .i64 (ae.bV ls) [.slice ps (ae.dW ls m).length cs,.slice pl ls.length cl])::Row I3 ps (ae.dW ls m).length cs (ae.dW ls m)::Row I3 pl ls.length cl ls::R::F) (fun(m:Nat) (ps:Option Addr) (cs:Nat)=>m≤15) (fun(m:Nat) (ps:Option Addr) (cs:Nat)=>15-m) (i3 (0) (none) (0) ?_ (eo ln) (sub (.cons ar (dV .nil)) aj)) ?_
     ·exact Nat.zero_le _
     intro m ps cs
     rintro hm
     refine(qP) ?_
     refine av rfl (fun h106=>?_) (fun h106=>?_)
     ·refine(QN) ?_
      rw[←ae.x8]
      refine dP (fun(i:Nat) (ps:Option Addr) (cs:Nat)=>[(0,.slice p ls.length cap),(4,.pointer (soz iN)),(9,.int .i64 ((m:Int)+1)),(10,.int .i64 (i:Int))]) (fun(i:Nat) (ps:Option Addr) (cs:Nat)=>ai iN 231 (CA [] .i64 (ae.bV ls) [.slice ps (ae.sy ls m i).length cs,.slice pl ls.length cl])::Row I3 ps (ae.sy ls m i).length cs (ae.sy ls m i)::Row I3 pl ls.length cl ls::R::F) (fun(i:Nat) (ps:Option Addr) (cs:Nat)=>i≤ls.length) (fun(i:Nat) (ps:Option Addr) (cs:Nat)=>ls.length-i) (i3 (0) (_) (_) ?_ (cK ln) (sub (jm .nil) aj)) ?_
      ·exact Nat.zero_le _
      intro i ps cs
      rintro hi
      refine(pe) ?_
      refine av rfl (fun h112=>?_) (fun h112=>?_)
      ·refine(Qb) ?_
       have hi2:i<ls.length:=omg
       have hg:I3.g ls (i:Int)=ls.getD i 0:=by simp[Ec.g]
       have hg2:ls.getD i 0=ls[i]:=by simp[hi2]
       have hsy:=ae.FI (ls:=ls) (m:=m) (i:=i) omg omg
       refine(Q3)<|(T3)<|(Q7) ?_
       refine av rfl (fun h120=>?_) (fun h120=>?_)
       ·refine(Qb)<|(Nj)<|(Q8)<|(Ur) ?_
        intro Aj
        refine(MZ) ?_
        intro p128 c128
        refine(Q9)<|(To)<|(QP) ?_
        (rw[ae.wJ hi2 (hg.trans hg2) omg,ae.z7 hi2 (hg.trans hg2) omg];exact j3 (i+1) _ _ ⟨omg,omg⟩ (cK ln) (sub (.cons aL (an (.cons ar (.cons ar .nil)))) bg))
       ·refine(r9) ?_
        (rw[ae.Fy hi2 (hg.trans hg2) omg];exact j3 (i+1) _ _ ⟨omg,omg⟩ (cK ln) (sub (jm .nil) aj))
      ·refine(wM) ?_
       rw[ae.Ah omg]
       refine j3 (m+1) (_) (_) ?_ (eo ln) (sub (jm .nil) aj)
       exact⟨omg,omg⟩
     ·refine(oZ) ?_
      have hm15:m=15:=omg
      subst hm15
      rw[ae.FA]
      exact af (bR rfl rfl) (.inl ⟨hE,iN,rfl,rfl⟩) ((aS (dV .nil) aj (fun w0 h hh=>lL hh)).trans (sub (aJ .nil) aj))
end Go.Proofs.YtmaiakpjgomnpaaGreat
namespace Go.Proofs.YtmaiakpjgomnpaaGreat
open Go.Sl 
attribute [local irreducible] ae.ord ae.jf ae.df ae.bV ae.cU ae.words ae.fZ ae.lenOf ae.bp ae.gT ae.wd ae.ns ae.k6 ae.p9 ae.cls ae.off ae.tk

def Uk(b:Nat)(ls:List Int)(b2:Nat)(B:List Int)(at_:Nat)(out:List Int)(free:Int)(hE:ae.bp ls=0)(hl:B.length<500000000)(hB:ag.aq B)(ha:at_≤8*B.length):aA Tryz.prog 201 [.pointer (soz b),.pointer (soz b2)] [HC b ls,LW b2 B at_ out free] (vR (fun v G=>∃n s,ae.tk ls B at_=.uP n s∧v=.int .i64 s∧G=[HC b ls,LW b2 B (at_+n) out free]) (fun ch G=>(∃n,ae.tk ls B at_=.short n∧ch=ku 194 (.agg #[])∧G=[HC b ls,LW b2 B (at_+n) out free])∨(∃n,ae.tk ls B at_=.none_ n∧ch=ku 237 (.agg #[])∧G=[HC b ls,LW b2 B (at_+n) out free]))):=by
 refine ao [(0,_),(1,_)] Tryz.func201 rfl Tryz.ntmps201 rfl rfl ?_
 intro w0 F
 have hV:=(ae.je hE).1
 have hW:=(ae.je hE).2
 have hcl:=ae.iL ls
 have hCb:=ae.mm hV.1
 have hm15:=ae.xc hV
 have hme:=ae.tt ls
 refine(r1) ?_
 rintro⟨p1,c1,p2,c2⟩ _
 dsimp only
 rw[hme]
 refine rT TT 19 rfl ?_
 rw[show((7:Nat),Value.int .i64 0)=(7,.int .i64 (ae.off ls (0+1):Int)) from by unfold ae.off;rfl]
 refine cF (fun(m:Nat)=>[(0,.pointer (soz b)),(1,.pointer (soz b2)),(5,.int .i64 (ag.acc B at_ m)),(6,.int .i64 (ae.base ls m+ae.cnt ls m)),(7,.int .i64 (ae.off ls (m+1):Int)),(8,.int .i64 ((m:Int)+1))]) (fun(m:Nat)=>ai b 275 (CA [.slice p1 ls.length c1] .i64 (ae.bV ls) [.slice p2 (ae.ord ls).length c2,.int .i64 (ae.fu ls:Int)])::Row sV p1 ls.length c1 (ae.words ls)::Row I3 p2 (ae.ord ls).length c2 (ae.ord ls)::LW b2 B (at_+m) out free::F) (fun(m:Nat)=>ae.Tk ls B at_ m) (fun(m:Nat)=>ae.fu ls-m) (i1 (0) ?_ (iw (bb ln)) (sub (jm .nil) aj)) ?_
 ·exact ae.uT ha
 intro m
 rintro ht
 have htl:=ht.le
 refine(qP) ?_
 refine oV (jJ (n:=16) 1 V.s3 rfl ay omg rfl rfl)<|(Qc) ?_
 refine av rfl (fun h14=>?_) (fun h14=>?_)
 ·have hcn:=ae.Gz (ls:=ls) (m:=m) omg
  have hbf:=ae.yx hW (n:=m+1) omg
  have hbn:=ae.qm ls (m+1)
  have hc1:=ae.gJ ls (m+1)
  have hof:=ae.wO hV (m:=m) omg
  have hac:=ag.ma B at_ (m+1)
  have hac0:=ag.ma B at_ m
  have hp15:=ae.oT (show m+1≤15 by omega)
  have hp14:=ae.oT (show m≤15 by omega)
  have hb:=ag.kY B (at_+m)
  have hnn:=ht.nn
  refine(Q4) ?_
  rcases(Nat.lt_or_ge (at_+m) (8*B.length)) with hx|hx
  ·refine(Q3)<|(Ud)<|(Q8) ?_
   refine oC (fQ b2 B (at_+m) out free 1 hl hB omg omg) V.fb rfl (.cons cB .nil) rfl ?_
   rw[ag.vf]
   refine(Zb)<|(Q1)<|(Q6X)<|(ES)<|(MY)<|(VH)<|(Qc) ?_
   refine av rfl (fun h33=>?_) (fun h33=>?_)
   ·refine(Qa) ?_
    have hlt:ag.acc B at_ (m+1)-ae.base ls (m+1)<ae.cnt ls (m+1):=by rw[←hcn];exact h33
    have hat:=ae.Ip omg hnn hlt
    have hol:(ae.ord ls).length≤320:=by rw[ae.mP];exact ae.wO hV (m:=15) omg
    refine(Q4) ?_
    refine oV (jJ (n:=16) 0 V.mj rfl cX omg rfl rfl)<|(xk)<|(Vi)<|(Qg) ?_
    rw[←hme]
    exact Vw (G:=[HC b ls,LW b2 B (at_+(m+1)) out free]) (aw rfl) ⟨m+1,_,ht.uP omg hx hlt,by rw[←gE (c:=I3) (e:=(ae.off ls (m+1):Int)+ag.acc B at_ (m+1)-ae.base ls (m+1)) _ omg],rfl⟩ ((aS (.cons ar (.cons ar (.cons ar .nil))) aj (fun w0 h hh=>rD rfl hh)).trans (sub (aJ .nil) aj))
   ·refine(QJ)<|(MY)<|(VH)<|(uM)<|(MY)<|(VH)<|(uM) ?_
    rw[hcn,←ae.kZ ls (m+1),show(m:Int)+1=((m+1:Nat):Int) from by omega]
    refine j1 (m+1) ?_ (iw (bb ln)) (sub (.cons ar (.cons ar (.cons ar (an .nil)))) aj)
    exact⟨ht.Ve omg hx (by rw[←hcn];assumption),omg⟩
  ·refine(Q3)<|(Ud)<|(Q8) ?_
   refine dY (gw b2 B (at_+m) out free 1 hl hB omg ht.room omg) V.fb rfl (.cons cB .nil) ?_
   rintro _ _ ⟨rfl,rfl⟩
   refine(dK (fC (dK (dK (fC (dK ?_))))))
   rw[←hme]
   exact Hg (G:=[HC b ls,LW b2 B (at_+m) out free]) (.inl ⟨m,ht.short omg omg,rfl,rfl⟩) ((aS (.cons ar (.cons ar (.cons ar .nil))) aj (fun w0 h hh=>rD rfl hh)).trans (sub (aJ .nil) aj))
 ·refine(Qf) ?_
  refine oV (cE V.XB V.R7 rfl (cs:=[]) rfl)<|oV (ya V.KQ rfl)<|xV rfl ?_
  skip
  rw[←hme]
  exact Hg (G:=[HC b ls,LW b2 B (at_+m) out free]) (.inr ⟨m,ht.none omg,rfl,rfl⟩) ((aS (dV .nil) aj (fun w0 h hh=>rD rfl hh)).trans (sub (aJ .nil) aj))

def H2(b:Nat)(ls:List Int)(b2:Nat)(p:Option Addr)(cap:Nat)(B:List Int)(R:ad)(hR:∀w0 h,R w0 h→aE U5 p B.length B w0 h)(at_:Nat)(sh:Bool)(hE:ae.bp ls=0)(hl:B.length<500000000)(hB:ag.aq B)(ha:at_≤8*B.length):aA Tryz.prog 155 [.pointer (soz b),.pointer (soz b2)] [RC b ls,ai b2 151 [.slice p B.length cap,.int .i64 (at_:Int),.bool false,.bool sh],R] (aF fun v G=>(∃n s,ae.tk ls B at_=.uP n s∧v=.tuple #[.int .i64 s,.int .i64 0]∧G=[RC b ls,ai b2 151 [.slice p B.length cap,.int .i64 ((at_+n:Nat):Int),.bool false,.bool sh],R])∨(∃n,ae.tk ls B at_=.short n∧v=.tuple #[.int .i64 0,.int .i64 2]∧G=[RC b ls,ai b2 151 [.slice p B.length cap,.int .i64 ((at_+n:Nat):Int),.bool false,.bool true],R])∨(∃n,ae.tk ls B at_=.none_ n∧v=.tuple #[.int .i64 0,.int .i64 4]∧G=[RC b ls,ai b2 151 [.slice p B.length cap,.int .i64 ((at_+n:Nat):Int),.bool false,.bool sh],R])):=by
 refine ao [(0,_),(1,_)] Tryz.func155 rfl Tryz.ntmps155 rfl rfl ?_
 intro w0 F
 have hV:=(ae.je hE).1
 have hW:=(ae.je hE).2
 have hcl:=ae.iL ls
 have hCb:=ae.mm hV.1
 have hm15:=ae.xc hV
 have hme:=ae.tt ls
 refine(r1) ?_
 rintro⟨p1,c1,p2,c2⟩ _
 dsimp only
 refine rT TT 12 rfl<|(Nj)<|(Q7) ?_
 refine av rfl (fun h17=>?_) (fun h17=>?_)
 ·refine(pB) ?_
  exact af (bR rfl rfl) (.inr (.inr ⟨0,(ae.uT ha).none (by rw[ae.LF hV omg];omega),rfl,rfl⟩)) ((aS (dV .nil) aj (fun w0 h hh=>lL hh)).trans (sub (dV .nil) aj))
 ·refine(Q3) ?_
  have hol0:(ae.ord ls).length≠0:=omg
  have hol:(ae.ord ls).length≤320:=by rw[ae.mP];exact ae.wO hV (m:=15) omg
  have hmp:=ae.DU hV omg
  refine(oZ) ?_
  rw[show((8:Nat),Value.int .i64 0)=(8,.int .i64 (ae.off ls (0+1):Int)) from by unfold ae.off;rfl]
  refine cF (fun(m:Nat)=>[(0,.pointer (soz b)),(1,.pointer (soz b2)),(6,.int .i64 (ag.acc B at_ m)),(7,.int .i64 (ae.base ls m+ae.cnt ls m)),(8,.int .i64 (ae.off ls (m+1):Int)),(9,.int .i64 ((m:Int)+1))]) (fun(m:Nat)=>ai b 231 (CA [] .i64 (ae.bV ls) [.slice p1 (ae.ord ls).length c1,.slice p2 ls.length c2])::Row I3 p1 (ae.ord ls).length c1 (ae.ord ls)::Row I3 p2 ls.length c2 ls::ai b2 151 [.slice p B.length cap,.int .i64 ((at_+m:Nat):Int),.bool false,.bool sh]::R::F) (fun(m:Nat)=>ae.Tk ls B at_ m∧m<ae.fu ls) (fun(m:Nat)=>15-m) (i1 (0) ?_ (iw (bb ln)) (sub (iV .nil) aj)) ?_
  ·exact⟨ae.uT ha,hmp⟩
  intro m
  rintro⟨ht,htl⟩
  have hcn:=ae.Gz (ls:=ls) (m:=m) omg
  have hbf:=ae.yx hW (n:=m+1) omg
  have hbn:=ae.qm ls (m+1)
  have hc1:=ae.gJ ls (m+1)
  have hof:=ae.wO hV (m:=m) omg
  have hac:=ag.ma B at_ (m+1)
  have hac0:=ag.ma B at_ m
  have hp15:=ae.oT (show m+1≤15 by omega)
  have hp14:=ae.oT (show m≤15 by omega)
  have hb:=ag.kY B (at_+m)
  have hnn:=ht.nn
  refine rL TT 4 rfl<|(yz)<|(Qd) ?_
  rcases(Nat.lt_or_ge (at_+m) (8*B.length)) with hx|hx
  ·refine(Q3) ?_
   refine oC (jk b2 p cap B R hR (at_+m) sh 1 hl hB omg omg) V.lO rfl (.cons cB (.cons cB .nil)) rfl ?_
   rw[ag.vf]
   refine rO TT 20 rfl<|(Ud)<|(Q8)<|(Zb)<|(Q8)<|(Q6X)<|(uB)<|(MY) ?_
   refine oV (eh ((m:Int)+1) V.s3 rfl dz (by(simp only[List.length_cons,List.length_nil];omega)) omg omg)<|(Qc) ?_
   refine av rfl (fun h44=>?_) (fun h44=>?_)
   ·refine(Qa) ?_
    have hlt:ag.acc B at_ (m+1)-ae.base ls (m+1)<ae.cnt ls (m+1):=by rw[←hcn];exact h44
    have hat:=ae.Ip omg hnn hlt
    refine(Q4) ?_
    refine oV (jJ (n:=16) 0 V.mj rfl dz omg rfl rfl)<|(xk)<|(Vi)<|(Qj) ?_
    exact af (bR rfl rfl) (.inl ⟨m+1,_,ht.uP omg hx hlt,by rw[←gE (c:=I3) (e:=(ae.off ls (m+1):Int)+ag.acc B at_ (m+1)-ae.base ls (m+1)) _ omg],rfl⟩) ((aS (.cons aL (.cons aL (.cons aL .nil))) aj (fun w0 h hh=>lL hh)).trans (sub (dV .nil) aj))
   ·refine(Q4) ?_
    have hms:=ht.Ve omg hx (by rw[←hcn];exact h44)
    refine(Q4) ?_
    refine oV (jJ (n:=16) 0 V.mj rfl dz omg rfl rfl)<|(Q7) ?_
    refine av rfl (fun h61=>?_) (fun h61=>?_)
    ·refine(Qa) ?_
     have hm1:=ae.RF hE omg
     refine(qG) ?_
     exact af (bR rfl rfl) (.inr (.inr ⟨m+1,hms.none omg,rfl,rfl⟩)) ((aS (.cons aL (.cons aL (.cons aL .nil))) aj (fun w0 h hh=>lL hh)).trans (sub (dV .nil) aj))
    ·refine(Q5) ?_
     refine wN [pz 0 [] [8],pz 0 [] [0],pz 0 [] [9],pz 2 [1] [],pz 10 [3] [],pz 30 [4,2] [],pz 62 [5] [],pz 127 [0,6] [],pz 0 [] [7],pz 0 [] [0],pz 0 [] [9],pz 512 [9] [],pz 2560 [11] [],pz 7680 [12,10] [],pz 15872 [13] [],pz 32512 [8,14] [],pz 255 [7] [],pz 131071 [15] []] [⟨fun y=>ai b2 151 [.slice p B.length cap,.int .i64 ((at_+m+1:Nat):Int),.bool false,.bool sh],none,none,[]⟩,⟨fun y=>R,none,none,[]⟩,⟨fun y=>ai b 231 (CA [] .i64 (ae.bV ls) [.slice p1 (ae.ord ls).length c1,.slice p2 ls.length c2]),none,none,[6,14]⟩,⟨fun y=>Row I3 p1 (ae.ord ls).length c1 (ae.ord ls),none,none,[]⟩,⟨fun y=>Row I3 p2 ls.length c2 ls,none,none,[]⟩] F V.mixed ?_
     iterate 3 refine nM ?_
     refine nN ?_
     refine nG V.tv ?_
     refine nV (fun y hA L=>bZ (m+1) rfl V.j0 rfl rfl omg) ?_
     refine(Zk) ?_
     refine(Qv) ?_
     iterate 3 refine nM ?_
     refine nN ?_
     refine nG V.tv ?_
     refine nV (fun y hA L=>bZ (m+1) rfl V.j0 rfl rfl omg) ?_
     refine(Zk) ?_
     refine(Qv) ?_
     iterate 2 refine nA ?_
     refine(Qi) ?_
     intro y hA
     clear hA
     show ks _ _ _ _ (ai b2 151 [.slice p B.length cap,.int .i64 ((at_+m+1:Nat):Int),.bool false,.bool sh]::R::ai b 231 (CA [] .i64 (ae.bV ls) [.slice p1 (ae.ord ls).length c1,.slice p2 ls.length c2])::Row I3 p1 (ae.ord ls).length c1 (ae.ord ls)::Row I3 p2 ls.length c2 ls::F)
     refine(uR)<|(sF)<|(tu) ?_
     rw[hcn,←ae.kZ ls (m+1),show(m:Int)+1=((m+1:Nat):Int) from by omega]
     refine j1 (m+1) ?_ (iw (bb ln)) (sub (.cons aL (.cons aL (.cons aL (aJ .nil)))) aj)
     exact⟨⟨hms,ae.Py hE omg omg hms.ge⟩,omg⟩
  ·refine(Q3) ?_
   exact oC (qb b2 p cap B R hR (at_+m) sh 1 hl hB omg ht.room omg) V.lO rfl (.cons cB (.cons cB .nil)) rfl<|rO TT 28 rfl<|af (bR rfl rfl) (.inr (.inl ⟨m,ht.short omg omg,rfl,rfl⟩)) ((aS (.cons aL (.cons aL (.cons aL .nil))) aj (fun w0 h hh=>lL hh)).trans (sub (dV .nil) aj))
end Go.Proofs.YtmaiakpjgomnpaaGreat
namespace Go.Proofs.YtmaiakpjgomnpaaGreat
open Go.Sl 
def Gw(p:Option Addr)(cap:Nat)(ls:List Int)(R:ad)(hR:∀w0 h,R w0 h→aE I3 p ls.length ls w0 h)(hE:ae.bp ls=0):aA Tryz.prog 195 [.slice p ls.length cap] [R] (aF fun v G=>∃b,v=.tuple #[.pointer (soz b),I6 0]∧G=[HC b ls,R]):=by
 refine(Mo p cap ls R hR).mono ?_
 rintro e G ⟨v,rfl,h⟩
 rcases h with⟨_,b,h1,h2⟩|⟨h,_⟩
 ·exact⟨v,rfl,b,h1,h2⟩
 ·exact absurd hE h
def KZ(p:Option Addr)(cap:Nat)(ls:List Int)(R:ad)(hR:∀w0 h,R w0 h→aE I3 p ls.length ls w0 h)(hE:¬ae.bp ls=0):aA Tryz.prog 195 [.slice p ls.length cap] [R] (aF fun v G=>v=.tuple #[.pointer none,I6 (ae.bp ls)]∧G=[R]):=by
 refine(Mo p cap ls R hR).mono ?_
 rintro e G ⟨v,rfl,h⟩
 rcases h with⟨h,_⟩|⟨_,h1,h2⟩
 ·exact absurd h hE
 ·exact⟨v,rfl,h1,h2⟩
def HN(p:Option Addr)(cap:Nat)(ls:List Int)(R:ad)(hR:∀w0 h,R w0 h→aE I3 p ls.length ls w0 h)(hE:ae.bp ls=0):aA Tryz.prog 154 [.slice p ls.length cap] [R] (aF fun v G=>∃b,v=.tuple #[.pointer (soz b),I6 0]∧G=[RC b ls,R]):=by
 refine(MO p cap ls R hR).mono ?_
 rintro e G ⟨v,rfl,h⟩
 rcases h with⟨_,b,h1,h2⟩|⟨h,_⟩
 ·exact⟨v,rfl,b,h1,h2⟩
 ·exact absurd hE h
def K2(p:Option Addr)(cap:Nat)(ls:List Int)(R:ad)(hR:∀w0 h,R w0 h→aE I3 p ls.length ls w0 h)(hE:¬ae.bp ls=0):aA Tryz.prog 154 [.slice p ls.length cap] [R] (aF fun v G=>v=.tuple #[.pointer none,I6 (ae.bp ls)]∧G=[R]):=by
 refine(MO p cap ls R hR).mono ?_
 rintro e G ⟨v,rfl,h⟩
 rcases h with⟨h,_⟩|⟨_,h1,h2⟩
 ·exact absurd h hE
 ·exact⟨v,rfl,h1,h2⟩
end Go.Proofs.YtmaiakpjgomnpaaGreat
namespace Go.Proofs.YtmaiakpjgomnpaaGreat
open Go.Sl 
def qt(e:Int):aA Tryz.prog 197 [.bool true,I6 e] [] (aF fun v G=>v=.tuple #[]∧G=[]):=by
 refine ao [(0,_),(1,_)] Tryz.func197 rfl Tryz.ntmps197 rfl rfl ?_
 intro w0 F
 refine(QQ) ?_
 exact ik fI ⟨rfl,rfl⟩ (sub .nil aj)
def mE(e:Int):aA Tryz.prog 197 [.bool false,I6 e] [] (uD fun ch G=>ch=ku 27 (I6 e)∧G=[]):=by
 refine ao [(0,_),(1,_)] Tryz.func197 rfl Tryz.ntmps197 rfl rfl ?_
 intro w0 F
 refine(mz) ?_
 refine oV (ya V.GV rfl)<|xV rfl ?_
 skip
 exact Be (G:=[]) ⟨rfl,rfl⟩ (sub .nil aj)
def Wd(b bl:Nat)(sz mo:Int)(li di:Value)(s:ab.St)(yb:Int)(hy:0≤yb∧yb<256)(hm:mo<1000000000):aA Tryz.prog 179 [.pointer (soz b),.int .u8 yb] [MS b bl sz mo li di s] (iP (ab.eK mo s yb) (fun s2 v G=>v=.tuple #[]∧G=[MS b bl sz mo li di s2]) [MX b bl sz mo]):=by
 refine ao [(0,_),(1,_)] Tryz.func179 rfl Tryz.ntmps179 rfl rfl ?_
 intro w0 F
 refine(r1) ?_
 rintro⟨po,co⟩ _
 dsimp only
 rcases(Classical.em ((s.out.length:Int)<mo)) with hx|hx
 ·refine rT TT 1 rfl ?_
  refine wN [pz 0 [] [0],pz 1 [0] [],pz 3 [1] [],pz 7 [2] [],pz 15 [3] [],pz 0 [] [0],pz 32 [5] [],pz 96 [6] [],pz 224 [7] [],pz 511 [4,8] [],pz 1023 [9] []] [⟨fun y=>ai b 223 [.pointer (soz bl),I6 sz,I6 mo,.slice po s.out.length co,.bool s.ended,I6 0,I6 s.kind,I6 (s.left:Int),.bool s.last,li,di,I6 (s.ax:Int),I6 (s.cm:Int)],none,none,[3,8]⟩,⟨fun y=>Row U5 po s.out.length co s.out,none,none,[]⟩] F V.mixed ?_
  refine nM ?_
  refine nN ?_
  refine nG V.kK ?_
  refine(qJ) ?_
  refine(yQ) ?_
  refine nM ?_
  refine nN ?_
  refine nG V.I7 ?_
  refine(Qz) ?_
  refine nV (fun y hA L=>bQ (dD rfl rfl) hx) ?_
  refine nE (fun y FF hA=>aO (Post:=[]) (qt 6) V.mF rfl .nil (fun v G h=>by rcases h with⟨rfl,rfl⟩;exact⟨rfl,.refl _⟩)) ?_
  refine(Qi) ?_
  intro y hA
  clear hA
  refine bJ<|bW _ (.cons (d:=0) rfl (.cons (d:=1) rfl (.nil _)))<|bA (M:=ai b 223 [.pointer (soz bl),I6 sz,I6 mo,.slice po s.out.length co,.bool s.ended,I6 0,I6 s.kind,I6 (s.left:Int),.bool s.last,li,di,I6 (s.ax:Int),I6 (s.cm:Int)]::Row U5 po s.out.length co s.out::F) (fun _ _ h=>h)<|(Qb)<|(zo)<|(Q8) ?_
  refine cg (U5) [yb] V.bT V.z5 rfl rfl rfl rfl rfl rfl ?_
  intro kM
  refine(SU) ?_
  intro p22 c22
  refine(Q9)<|(Z9) ?_
  exact ga<|iH (x:= {s with out:=s.out++[yb]}) (by unfold ab.eK;rw[if_pos hx]) fI ⟨rfl,rfl⟩ ((aS (.cons aL (an .nil)) bg (fun w0 h hh=>dL (s:= {s with out:=s.out++[yb]}) (by simp) hh)))
 ·refine rT TT 1 rfl ?_
  refine wN [pz 0 [] [0],pz 1 [0] [],pz 3 [1] [],pz 7 [2] [],pz 15 [3] [],pz 0 [] [0],pz 32 [5] [],pz 96 [6] [],pz 224 [7] [],pz 511 [4,8] [],pz 1023 [9] []] [⟨fun y=>ai b 223 [.pointer (soz bl),I6 sz,I6 mo,.slice po s.out.length co,.bool s.ended,I6 0,I6 s.kind,I6 (s.left:Int),.bool s.last,li,di,I6 (s.ax:Int),I6 (s.cm:Int)],none,none,[3,8,10]⟩,⟨fun y=>Row U5 po s.out.length co s.out,none,none,[]⟩] F V.mixed ?_
  refine nM ?_
  refine nN ?_
  refine nG V.kK ?_
  refine(qJ) ?_
  refine(yQ) ?_
  refine nM ?_
  refine nN ?_
  refine nG V.I7 ?_
  refine(Qz) ?_
  refine nV (fun y hA L=>bC (dD rfl rfl) hx) ?_
  refine bF (undef) _ _ (fun y=>rfl) rfl (fun y=>rfl) (fun y FF hA=>gf (mE 6) V.mF rfl .nil (by rintro _ _ ⟨rfl,rfl⟩;exact mg (by unfold ab.eK;rw[if_neg hx]) (PE.no dec) (aS (an .nil) (by exact zg (M:=FF) (F:=F)) (fun w0 h hh=>cQ hh)))) ?_
  refine(Qi) ?_
  intro y hA
  exact(dI.fact (hA 10 (by exact Nat.le_of_ble_eq_true rfl)) (q:=fun _=>False) rfl).elim
end Go.Proofs.YtmaiakpjgomnpaaGreat
namespace Go.Proofs.YtmaiakpjgomnpaaGreat
open Go.Sl 
attribute [local irreducible] ae.bp ae.tk ae.ord ae.bV ae.words ae.cU ab.ja ab.gG
def IA(p:Option Addr)(n cap:Nat)(ls:List Int)(R:ad)(hn:n=ls.length)(hR:∀w0 h,R w0 h→aE I3 p ls.length ls w0 h):aA Tryz.prog 221 [.slice p n cap] [R] (iP (ab.jH ls) (fun _ v G=>∃b,v=.pointer (soz b)∧G=[HC b ls,R]) []):=by
 subst hn
 refine ao [(0,_)] Tryz.func221 rfl Tryz.ntmps221 rfl rfl ?_
 intro w0 F
 refine(QV) ?_
 rcases(Classical.em (ae.bp ls=0)) with hE|hE
 ·refine(Q3) ?_
  refine aQ (Gw p cap ls R hR hE) V.Wr rfl (an .nil) rfl ?_
  rintro _ _ ⟨bh,rfl,rfl⟩
  refine(Qg)<|(EM)<|(Hs)<|(Qn) ?_
  exact lx (x:=()) (by unfold ab.jH;rw[if_pos hE]) (aw rfl) ⟨bh,rfl,rfl⟩ (sub (aJ .nil) aj)
 ·refine(Q3) ?_
  refine oC (KZ p cap ls R hR hE) V.Wr rfl (an .nil) rfl<|(Qg) ?_
  refine oV (bC (bG rfl rfl) hE)<|(EF) ?_
  rintro _ _ ⟨rfl,rfl⟩
  refine(dK ?_)
  exact ef (e:=4) (by unfold ab.jH;rw[if_neg hE]) (PE.no dec) (sub .nil bg)
def Fm(x:Int)(n:Nat)(hn:n<1000000):aA Tryz.prog 220 [I6 x,I6 (n:Int)] [] (aF fun v G=>∃p c,v=.slice p n c∧G=[Row I3 p n c (List.replicate n x)]):=by
 refine ao [(0,_),(1,_)] Tryz.func220 rfl Tryz.ntmps220 rfl rfl ?_
 intro w0 F
 refine rT TT 18 rfl<|gL (Row I3 none 0 0 (List.replicate 0 x)) (Row.nil _ _ _) ?_
 refine dP (fun(k:Nat) (po:Option Addr) (co:Nat)=>[(0,I6 x),(5,.slice po k co),(6,I6 (n:Int)),(7,I6 (k:Int))]) (fun(k:Nat) (po:Option Addr) (co:Nat)=>Row I3 po k co (List.replicate k x)::F) (fun(k:Nat) (po:Option Addr) (co:Nat)=>k≤n) (fun(k:Nat) (po:Option Addr) (co:Nat)=>n-k) (i3 (0) (none) (0) ?_ (cK ln) (sub (an .nil) aj)) ?_
 ·exact Nat.zero_le _
 intro k po co
 rintro hk
 refine(Qs) ?_
 refine av rfl (fun h8=>?_) (fun h8=>?_)
 ·refine(Qr) ?_
  refine cg (I3) [x] V.cy V.z3 rfl rfl rfl rfl rfl rfl ?_
  intro b11
  refine(uK) ?_
  intro p12 c12
  refine(QP) ?_
  rw[←List.replicate_succ']
  refine j3 (k+1) (_) (_) ?_ (cK ln) (sub (an .nil) bg)
  exact⟨omg,omg⟩
 ·refine(qG) ?_
  obtain rfl:k=n:=omg
  exact af (aw rfl) ⟨po,co,rfl,rfl⟩ (sub (an .nil) aj)
def PG:aA Tryz.prog 222 [] [] (aF fun v G=>∃p,v=.slice p 19 19∧G=[Row I3 p 19 19 ab.kx]):=by
 refine ao [] Tryz.func222 rfl Tryz.ntmps222 rfl rfl ?_
 intro w0 F
 refine rT TT 7 rfl<|cg (I3) [16,17,18,0,8,7,9,6,10,5,11,4,12,3,13,2,14,1,15] V.cy V.z3 rfl rfl rfl rfl rfl rfl ?_
 intro b1
 refine(Q7) ?_
 exact af (aw rfl) ⟨_,rfl,rfl⟩ (sub (an .nil) aj)
def O0(b:Nat)(B:List Int)(at_:Nat)(out:List Int)(free:Int)(hl:B.length<500000000)(ha:at_≤8*B.length):aA Tryz.prog 198 [.pointer (soz b)] [LW b B at_ out free] (aF fun v G=>v=.tuple #[]∧G=[LW b B (ab.cT at_) out free]):=by
 refine ao [(0,_)] Tryz.func198 rfl Tryz.ntmps198 rfl rfl ?_
 intro w0 F
 refine(r1) ?_
 rintro⟨p1,c1,p2,c2⟩ _
 dsimp only
 refine(l6)<|(Ql)<|(o7)<|(qO)<|(uw)<|(m9) ?_
 refine ga ?_
 rw[show((at_:Int)+8-1)/8*8=((ab.cT at_:Nat):Int) from by unfold ab.cT;omega]
 exact ik fI ⟨rfl,rfl⟩ (aS (dV .nil) aj (fun w0 h hh=>rb hh))
def pJ(b:Nat)(ls:List Int)(b2:Nat)(B:List Int)(at_:Nat)(out:List Int)(free:Int)(hE:ae.bp ls=0)(hl:B.length<500000000)(hB:ag.aq B)(ha:at_≤8*B.length):aA Tryz.prog 201 [.pointer (soz b),.pointer (soz b2)] [HC b ls,LW b2 B at_ out free] (iP (ab.sym ls B at_) (fun x v G=>v=I6 x.1∧G=[HC b ls,LW b2 B x.2 out free]) []):=by
 intro w0 F w hi
 refine(Uk b ls b2 B at_ out free hE hl hB ha w0 F w hi).mono ?_
 rintro e w' ⟨G,h1,(⟨v,rfl,n',s',h,rfl,rfl⟩|⟨ch,rfl,(⟨n',h,rfl,rfl⟩|⟨n',h,rfl,rfl⟩)⟩)⟩
 ·exact⟨_,h1,.inl ⟨_,rfl,(s',at_+n'),by unfold ab.sym;rw[h],rfl,rfl⟩⟩
 ·exact⟨[],h1.right,.inr ⟨_,rfl,2,by unfold ab.sym;rw[h],PE.end_,rfl⟩⟩
 ·exact⟨[],h1.right,.inr ⟨_,rfl,4,by unfold ab.sym;rw[h],PE.none_,rfl⟩⟩
end Go.Proofs.YtmaiakpjgomnpaaGreat
namespace Go.Proofs.YtmaiakpjgomnpaaGreat
open Go.Sl 
attribute [local irreducible] ae.bp ae.tk ae.ord ae.bV ae.words ae.cU ab.ja ab.gG
def Ek(b bl:Nat)(sz mo:Int)(po:Option Addr)(no co:Nat)(li di:Value)(s:ab.St):aA Tryz.prog 182 [.pointer (soz b)] [ai b 223 [.pointer (soz bl),I6 sz,I6 mo,.slice po no co,.bool s.ended,I6 0,I6 s.kind,I6 (s.left:Int),.bool s.last,li,di,I6 (s.ax:Int),I6 (s.cm:Int)]] (aF fun v G=>v=.tuple #[]∧G=[ai b 223 [.pointer (soz bl),I6 sz,I6 mo,.slice po no co,.bool s.last,I6 0,I6 (-1),I6 (s.left:Int),.bool s.last,li,di,I6 (s.ax:Int),I6 (s.cm:Int)]]):=by
 refine ao [(0,_)] Tryz.func182 rfl Tryz.ntmps182 rfl rfl ?_
 intro w0 F
 refine(l6)<|(nP)<|(Q9)<|(m9)<|(Q9)<|(Cd) ?_
 exact ga<|ik fI ⟨rfl,rfl⟩ (sub (an .nil) aj)

def Mu(b bl:Nat)(sz mo:Int)(po:Option Addr)(no co:Nat)(li di:Value)(s:ab.St)(B:List Int)(a:Nat)(sy:Int)(pl:Option Addr)(cl:Nat)(l:List Int)(hs:0≤sy∧sy≤18)(hl:B.length<500000000)(hB:ag.aq B)(ha:a≤8*B.length)(hll:l.length<1000000):aA Tryz.prog 223 [.pointer (soz b),I6 sy,.slice pl l.length cl] [ai b 223 [.pointer (soz bl),I6 sz,I6 mo,.slice po no co,.bool s.ended,I6 0,I6 s.kind,I6 (s.left:Int),.bool s.last,li,di,I6 (s.ax:Int),I6 (s.cm:Int)],LW bl B a [] 0,Row I3 pl l.length cl l] (iP (ab.rep B sy l a) (fun x v G=>v=.tuple #[I6 x.1,I6 x.2.1]∧G=[ai b 223 [.pointer (soz bl),I6 sz,I6 mo,.slice po no co,.bool s.ended,I6 0,I6 s.kind,I6 (s.left:Int),.bool s.last,li,di,I6 (s.ax:Int),I6 (s.cm:Int)],LW bl B x.2.2 [] 0,Row I3 pl l.length cl l]) [MX b bl sz mo]):=by
 refine ao [(0,_),(1,_),(2,_)] Tryz.func223 rfl Tryz.ntmps223 rfl rfl ?_
 intro w0 F
 refine rT TT 19 rfl ?_
 refine av rfl (fun h10=>?_) (fun h10=>?_)
 ·rcases(Nat.lt_or_ge (8*B.length) (a+2)) with hx|hx
  ·refine(Qa) ?_
   have hy:sy=16:=h10
   subst hy
   have hnb:=ag.aX B a 2
   refine(Q4)<|(s8) ?_
   refine dY (gw bl B a [] 0 2 hl hB omg omg omg) V.fb rfl (.cons ar .nil) ?_
   rintro _ _ ⟨rfl,rfl⟩
   refine(dK (fC (dK ?_)))
   exact ef (e:=2) (ab.kB dec (show 8*B.length<a+2 from hx)) PE.end_ (aS (.cons ar .nil) dC (fun w0 h hh=>cQ hh))
  ·refine(Qa) ?_
   have hy:sy=16:=h10
   subst hy
   have hnb:=ag.aX B a 2
   refine(Q4)<|(s8) ?_
   refine oC (fQ bl B a [] 0 2 hl hB omg omg) V.fb rfl (.cons ar .nil) rfl<|(uw) ?_
   rcases(Nat.eq_zero_or_pos l.length) with hl0|hl0
   ·refine(Q4)<|(Qo)<|(EF) ?_
    rintro _ _ ⟨rfl,rfl⟩
    refine(dK (fC (dK ?_)))
    exact ef (e:=4) (ab.Bt rfl (List.length_eq_zero_iff.1 hl0) (show¬8*B.length<a+2 from by omega)) (PE.no dec) (aS (.cons ar .nil) dC (fun w0 h hh=>cQ hh))
   ·refine(Q4)<|(Qp)<|(Hs)<|(Qc) ?_
    have hgl:I3.g l ((l.length:Int)-1)=l.getD (l.length-1) 0:=gE _ omg
    refine mf TT 5 rfl omg<|oV (xI V.cy (own dz))<|oV (xL V.s3 (own dz))<|(Qe) ?_
    rw[hgl]
    exact lx (x:=(l.getD (l.length-1) 0,3+ag.aG B a 2,a+2)) (ab.vK dec (show¬8*B.length<a+2 from by omega) (fun h=>by rw[h.2] at hl0;simp at hl0)) (bR rfl rfl) ⟨rfl,rfl⟩ (sub (.cons ar (aJ .nil)) aj)
 ·refine(Qf) ?_
  refine av rfl (fun h29=>?_) (fun h29=>?_)
  ·rcases(Nat.lt_or_ge (8*B.length) (a+3)) with hx|hx
   ·refine(Qa) ?_
    have hy:sy=17:=h29
    subst hy
    have hnb:=ag.aX B a 3
    refine(Q4)<|(s8) ?_
    refine dY (gw bl B a [] 0 3 hl hB omg omg omg) V.fb rfl (.cons ar .nil) ?_
    rintro _ _ ⟨rfl,rfl⟩
    refine(dK (fC (dK ?_)))
    exact ef (e:=2) (ab.kB dec (show 8*B.length<a+3 from hx)) PE.end_ (aS (.cons ar .nil) dC (fun w0 h hh=>cQ hh))
   ·refine(Qa) ?_
    have hy:sy=17:=h29
    subst hy
    have hnb:=ag.aX B a 3
    refine(Q4)<|(s8) ?_
    refine oC (fQ bl B a [] 0 3 hl hB omg omg) V.fb rfl (.cons ar .nil) rfl<|(QP) ?_
    exact lx (x:=(0,3+ag.aG B a 3,a+3)) (ab.vK dec (show¬8*B.length<a+3 from by omega) (fun h=>absurd h.1 dec)) (bR rfl rfl) ⟨rfl,rfl⟩ (sub (.cons ar (aJ .nil)) aj)
  ·refine(Qf) ?_
   refine av rfl (fun h37=>?_) (fun h37=>?_)
   ·rcases(Nat.lt_or_ge (8*B.length) (a+7)) with hx|hx
    ·refine(Qa) ?_
     have hy:sy=18:=h37
     subst hy
     have hnb:=ag.aX B a 7
     refine(Q4)<|(s8) ?_
     refine dY (gw bl B a [] 0 7 hl hB omg omg omg) V.fb rfl (.cons ar .nil) ?_
     rintro _ _ ⟨rfl,rfl⟩
     refine(dK (fC (dK ?_)))
     exact ef (e:=2) (ab.kB dec (show 8*B.length<a+7 from hx)) PE.end_ (aS (.cons ar .nil) dC (fun w0 h hh=>cQ hh))
    ·refine(Qa) ?_
     have hy:sy=18:=h37
     subst hy
     have hnb:=ag.aX B a 7
     refine(Q4)<|(s8) ?_
     refine oC (fQ bl B a [] 0 7 hl hB omg omg) V.fb rfl (.cons ar .nil) rfl<|(QP) ?_
     exact lx (x:=(0,11+ag.aG B a 7,a+7)) (ab.vK dec (show¬8*B.length<a+7 from by omega) (fun h=>absurd h.1 dec)) (bR rfl rfl) ⟨rfl,rfl⟩ (sub (.cons ar (aJ .nil)) aj)
   ·refine(lW) ?_
    exact lx (x:=(sy,1,a)) (ab.Hu omg) (bR rfl rfl) ⟨rfl,rfl⟩ (sub (dV .nil) aj)
end Go.Proofs.YtmaiakpjgomnpaaGreat
namespace Go.Sl
section
variable {C:Ctx} {E:Env} {L F:List ad} {ops:Array Oper} {d:Option Nat} {ty:TypeId} {pos:String} {aft:Array Edge}
def rm{A:Nat→ad}{f:FuncId}{args:List Operand}{tys:Array TypeId}{vs:List Value}{Pre Post:List ad}(hS:aA C.P f vs Pre (aF fun v G=>∃b,v=.pointer (soz b)∧G=A b::Post))(hb:az C.P f=true)(hE:iG E args=some vs)(hL:fG L Pre F):
    Step C ops ⟨d,.call ⟨.value (.func f),args.toArray,tys⟩,ty,pos,aft,none⟩ E L (fun v L'=>v=.pointer (some ⟨eG v,0,none⟩)∧True∧L'.Perm ((A (eG v)::Post)++F)):=
  tK hS hb hE hL fun v G ⟨b,e1,e2⟩=>by subst e1;subst e2;exact⟨rfl,trivial,.refl _⟩
def gb{t n e sz:Nat}{parts:List (Nat×Operand)}{pv:List (Nat×Value)}{zs cs:List Value}(har:jP C.P t=some (n,e,sz))(hz:cW C.P t=some zs)(hp:rP E parts=some pv)(hf:Instr.fill (fun i=>some (i*sz,sz)) zs.toArray pv=some cs.toArray):
    cx C (.build t parts.toArray) ty E L (.agg cs.toArray) L:=
  dM fun d pos aft g a w ha=>by
    obtain⟨i',z,hz1,hz2,hz3,hz4⟩:=kJ hz
    have hmap:parts.toArray.map (fun x=>match x with|(i,x)=>(i,a.eval x))=pv.toArray:=by
      rw[←o4 hp a ha];simp
    unfold jP at har
    split at har
    · rename_i n' e' hfs
      split at har
      · rename_i i hi
        cases har
        simp only[execOp,hmap,Instr.build,Sem.run_bind,zeroValue,typeInfo,run_program,Result.andThen_ok,hz1,hz2,Sem.run_pure,run_underlying hfs,run_sizeOf hi,hz3]
        simp[hf]
      · cases har
    · cases har
end
def mI{p:Option Addr}{n c m:Nat}{l:List Int}{w0:World}{h:Hp}(hn:n=l.length)(hm:m≤n)(hh:Row I3 p n c l w0 h):aE I3 p (l.take m).length (l.take m) w0 h:=by
  have:=hh.rd.sub 0 m m (Nat.zero_le _) hm (Nat.le_refl _)
  rw[pF,Nat.sub_zero,List.drop_zero] at this
  rw[List.length_take,←hn,Nat.min_eq_left hm]
  exact this
def mB{p:Option Addr}{n c m:Nat}{l:List Int}{w0:World}{h:Hp}(hn:n=l.length)(hm:m≤n)(hc:n≤c)(hh:Row I3 p n c l w0 h):aE I3 (cM p m c 1) (l.drop m).length (l.drop m) w0 h:=by
  have:=hh.rd.sub m n c hm (Nat.le_refl _) hc
  rw[List.take_of_length_le (by rw[List.length_drop];omega)] at this
  rw[List.length_drop,←hn]
  exact this
def ni{p:Option Addr}{n c:Nat}{l:List Int}{w0:World}{h:Hp}(hn:n=l.length)(hh:Row I3 p n c l w0 h):aE I3 p l.length l w0 h:=by subst hn;exact hh.rd
end Go.Sl
namespace Go.Proofs.YtmaiakpjgomnpaaGreat
open Go.Sl 
attribute [local irreducible] ae.bp ae.tk ae.ord ae.bV ae.words ae.cU ab.gG ab.bX ab.cu ab.dG ab.hL ab.hD ab.hC ab.fg ab.told ab.dO ab.jH ab.rep
abbrev P2:Ec (Int×Int):=⟨246,2,fun x=>[I6 x.1,I6 x.2],(0,0),fun _=>rfl,fun _=>rfl⟩
def mV(p:Option Addr)(n cap:Nat)(ls:List Int)(R:ad)(hn:n=ls.length)(hR:∀w0 h,R w0 h→aE I3 p ls.length ls w0 h)(hE:ae.bp ls=0):aA Tryz.prog 221 [.slice p n cap] [R] (aF fun v G=>∃b,v=.pointer (soz b)∧G=[HC b ls,R]):=
 (IA p n cap ls R hn hR).ok (x:=()) (by unfold ab.jH;rw[if_pos hE])
def yk(p:Option Addr)(n cap:Nat)(ls:List Int)(R:ad)(hn:n=ls.length)(hR:∀w0 h,R w0 h→aE I3 p ls.length ls w0 h)(hE:ae.bp ls≠0):aA Tryz.prog 221 [.slice p n cap] [R] (uD fun ch G=>PE 4 ch∧G=[]):=
 (IA p n cap ls R hn hR).err (by unfold ab.jH;rw[if_neg hE])
def Jo(x n:Int)(hn:0≤n∧n<1000000):aA Tryz.prog 220 [I6 x,I6 n] [] (aF fun v G=>∃p c,v=.slice p n.toNat c∧G=[Row I3 p n.toNat c (List.replicate n.toNat x)]):=by
 have h:=Fm x n.toNat omg
 rw[Int.toNat_of_nonneg hn.1] at h
 exact h
def Pj(b bl:Nat)(sz mo:Int)(po:Option Addr)(no co:Nat)(li di:Value)(s:ab.St):aA Tryz.prog 199 [.pointer (soz b)] [ai b 223 [.pointer (soz bl),I6 sz,I6 mo,.slice po no co,.bool s.ended,I6 0,I6 s.kind,I6 (s.left:Int),.bool s.last,li,di,I6 (s.ax:Int),I6 (s.cm:Int)]] (aF fun v G=>∃l d,v=.tuple #[]∧G=[ai b 223 [.pointer (soz bl),I6 sz,I6 mo,.slice po no co,.bool s.ended,I6 0,I6 s.kind,I6 (s.left:Int),.bool s.last,(.pointer (soz l)),(.pointer (soz d)),I6 (s.ax:Int),I6 (s.cm:Int)],HC l ab.dO,HC d ab.jT]):=by
 refine ao [(0,_)] Tryz.func199 rfl Tryz.ntmps199 rfl rfl ?_
 intro w0 F
 refine(QQ) ?_
 iterate 4 refine oV (gb V.FU V.KY rfl (cs:=[_,_]) rfl) ?_
 refine cg (P2) ab.ju V.Ml V.KY rfl rfl rfl rfl rfl rfl ?_
 intro b9
 refine(Q6) ?_
 refine gL (Row I3 none 0 0 (ab.ja 0)) (Row.nil _ _ _) ?_
 refine dP (fun(k:Nat) (pr:Option Addr) (cr:Nat)=>[(0,.pointer (soz b)),(2,.slice pr (ab.ja k).length cr),(9,.slice (soz b9) 4 4),(10,I6 4),(11,I6 (k:Int))]) (fun(k:Nat) (pr:Option Addr) (cr:Nat)=>Row I3 pr (ab.ja k).length cr (ab.ja k)::Row P2 (soz b9) 4 4 ab.ju::ai b 223 [.pointer (soz bl),I6 sz,I6 mo,.slice po no co,.bool s.ended,I6 0,I6 s.kind,I6 (s.left:Int),.bool s.last,li,di,I6 (s.ax:Int),I6 (s.cm:Int)]::F) (fun(k:Nat) (pr:Option Addr) (cr:Nat)=>k≤4) (fun(k:Nat) (pr:Option Addr) (cr:Nat)=>4-k) (i3 (0) (none) (0) ?_ (bb ln) (sub (dV .nil) aj)) ?_
 ·exact Nat.zero_le _
 intro k pr cr
 rintro hk
 refine(Qs) ?_
 refine av rfl (fun h12=>?_) (fun h12=>?_)
 ·refine(Qf) ?_
  refine oV (xI V.Ml (own cX))<|oV (mU (c:=(P2)) V.Sk rfl (own cX) omg omg rfl)<|de V.KY rfl ?_
  intro b4
  refine cC (aZ V.Sk rfl rfl (us:=[_,_]) rfl rfl (by exact ft) (by exact Nat.le_of_ble_eq_true rfl) rfl)<|(Q9) ?_
  have hf1:0≤(P2.g ab.ju (k:Int)).2∧(P2.g ab.ju (k:Int)).2<200:=ab.WQ omg
  have hf2:=ab.O8 k omg
  refine(Q5) ?_
  refine oV (bZ 0 rfl V.FU rfl rfl omg)<|(Ql) ?_
  refine oV (bZ 1 rfl V.FU rfl rfl omg)<|(Ql) ?_
  refine aQ (Jo (P2.g ab.ju (k:Int)).1 (P2.g ab.ju (k:Int)).2 omg) V.FQ rfl .nil rfl ?_
  rintro _ _ ⟨p20,c20,rfl,rfl⟩
  refine(MZ) ?_
  intro p21 c21
  refine(QP) ?_
  have hst:ab.ja (k+1)=ab.ja k++List.replicate (P2.g ab.ju (k:Int)).2.toNat (P2.g ab.ju (k:Int)).1:=ab.GL k
  have hsl:(ab.ja (k+1)).length=(ab.ja k).length+(P2.g ab.ju (k:Int)).2.toNat:=by rw[hst,List.length_append,List.length_replicate]
  rw[←hst,←hsl]
  refine j3 (k+1) (_) (_) ?_ (bb ln) (sub (an (.cons aL (.cons aL .nil))) dC)
  exact⟨omg,omg⟩
 ·refine(Qb) ?_
  have hk4:k=4:=omg
  have hfl:ae.bp (ab.ja k)=0:=by rw[hk4,ab.GW];exact ab.xN
  refine(Q4) ?_
  refine aQ (mV pr (ab.ja k).length cr (ab.ja k) (Row I3 pr (ab.ja k).length cr (ab.ja k)) rfl (fun _ _ hh=>ni rfl hh) hfl) V.pO rfl (an .nil) rfl ?_
  rintro _ _ ⟨l26,rfl,rfl⟩
  refine aQ (Fm 5 32 omg) V.FQ rfl .nil rfl ?_
  rintro _ _ ⟨p27,GV,rfl,rfl⟩
  refine aQ (mV p27 32 GV (List.replicate 32 5) (Row I3 p27 32 GV (List.replicate 32 5)) rfl (fun _ _ hh=>ni rfl hh) ab.yw) V.pO rfl (an .nil) rfl ?_
  rintro _ _ ⟨d28,rfl,rfl⟩
  refine(Q9)<|(Q70)<|(Q9)<|(Q70) ?_
  refine ga ?_
  rw[hk4,ab.GW]
  exact ik fI ⟨l26,d28,rfl,rfl⟩ (sub (.cons jX (.cons aL (an .nil))) iW)
end Go.Proofs.YtmaiakpjgomnpaaGreat
namespace Go.Proofs.YtmaiakpjgomnpaaGreat
open Go.Sl 
def dh:ig Tryz.prog ⟨[47],[(223,0,0)]⟩=true:=by kernel_rfl
attribute [local irreducible] ae.bp ae.tk ae.ord ae.bV ae.words ae.cU ab.gG ab.bX ab.cu ab.dG ab.hL ab.hD ab.hC ab.fg ab.told ab.dO ab.jH ab.rep

def GI(b bl:Nat)(sz mo:Int)(po:Option Addr)(no co:Nat)(li di:Value)(s:ab.St)(B:List Int)(a:Nat)(hl:B.length<500000000)(hB:ag.aq B)(ha:a≤8*B.length):aA Tryz.prog 200 [.pointer (soz b)] [ai b 223 [.pointer (soz bl),I6 sz,I6 mo,.slice po no co,.bool s.ended,I6 0,I6 s.kind,I6 (s.left:Int),.bool s.last,li,di,I6 (s.ax:Int),I6 (s.cm:Int)],LW bl B a [] 0] (iP (ab.told B a) (fun x v G=>∃l d,v=.tuple #[]∧G=[ai b 223 [.pointer (soz bl),I6 sz,I6 mo,.slice po no co,.bool s.ended,I6 0,I6 s.kind,I6 (s.left:Int),.bool s.last,(.pointer (soz l)),(.pointer (soz d)),I6 (s.ax:Int),I6 (s.cm:Int)],LW bl B x.1 [] 0,HC l x.2.1,HC d x.2.2]) [MX b bl sz mo]):=by
 refine ao [(0,_)] Tryz.func200 rfl Tryz.ntmps200 rfl rfl ?_
 intro w0 F
 have hn1:=ag.aX B a 5
 have hn2:=ag.aX B (a+5) 5
 have hn3:=ag.aX B (a+10) 4
 obtain⟨he1,he2,he3,he4,he5,he6,he7,he8⟩:=ab.Cs B a
 have hNN:ab.cu B a=ab.hL B a+ab.hD B a:=ab.vj B a
 have hAA:ab.dG B a=a+14+3*ab.hC B a:=ab.vA B a
 rcases(ab.Yj B.length a) with hx|⟨hx1,hx⟩|⟨hx1,hx⟩|h14
 ·refine rT dh 1 rfl ?_
  refine wN [pz 0 [] [0],pz 1 [0] [],pz 3 [1] [],pz 7 [2] [],pz 15 [3] [],pz 31 [4] [],pz 0 [] [0],pz 64 [6] [],pz 192 [7] [],pz 448 [8] [],pz 991 [9] [],pz 2015 [10] [],pz 0 [] [0],pz 4096 [12] [],pz 12288 [13] [],pz 28672 [14] [],pz 63455 [15] [],pz 128991 [16] [],pz 129023 [5] [],pz 393215 [11] [],pz 1048575 [17] []] [⟨fun y=>ai b 223 [.pointer (soz bl),I6 sz,I6 mo,.slice po no co,.bool s.ended,I6 0,I6 s.kind,I6 (s.left:Int),.bool s.last,li,di,I6 (s.ax:Int),I6 (s.cm:Int)],none,none,[3,4,9,15]⟩,⟨fun y=>LW bl B a [] 0,none,none,[4]⟩] F V.mixed ?_
  refine nM ?_
  refine nN ?_
  refine nG V.iC ?_
  refine nR (fun y FF hA=>aB V.hI rfl ay rfl) ?_
  refine bF (undef) _ _ (fun y=>rfl) rfl (fun y=>rfl) (fun y FF hA=>gf (gw bl B a [] 0 5 hl hB omg omg omg) V.fb rfl (.cons ar .nil) (by rintro _ _ ⟨rfl,rfl⟩;exact mg (ab.tD omg) PE.end_ (aS (.cons ar .nil) (by exact Bo (M:=FF) (F:=F)) (fun w0 h hh=>cQ hh)))) ?_
  refine bF (.bool true) _ _ (fun y=>rfl) rfl (fun y=>rfl) (fun y FF hA=>(dI.fact (hA 4 dec) (q:=fun _=>False) rfl).elim) ?_
  refine nM ?_
  refine nN ?_
  refine nG V.iC ?_
  refine nR (fun y FF hA=>aB V.hI rfl ay rfl) ?_
  refine bF (.bool true) _ _ (fun y=>rfl) rfl (fun y=>rfl) (fun y FF hA=>(dI.fact (hA 4 dec) (q:=fun _=>False) rfl).elim) ?_
  refine bF (.bool true) _ _ (fun y=>rfl) rfl (fun y=>rfl) (fun y FF hA=>(dI.fact (hA 4 dec) (q:=fun _=>False) rfl).elim) ?_
  refine nM ?_
  refine nN ?_
  refine nG V.iC ?_
  refine nR (fun y FF hA=>aB V.hI rfl ay rfl) ?_
  refine bF (.bool true) _ _ (fun y=>rfl) rfl (fun y=>rfl) (fun y FF hA=>(dI.fact (hA 4 dec) (q:=fun _=>False) rfl).elim) ?_
  refine bF (.bool true) _ _ (fun y=>rfl) rfl (fun y=>rfl) (fun y FF hA=>(dI.fact (hA 4 dec) (q:=fun _=>False) rfl).elim) ?_
  refine bF (.bool true) _ _ (fun y=>rfl) rfl (fun y=>rfl) (fun y FF hA=>(dI.fact (hA 4 dec) (q:=fun _=>False) rfl).elim) ?_
  refine bF (.bool true) _ _ (fun y=>rfl) rfl (fun y=>rfl) (fun y FF hA=>(dI.fact (hA 4 dec) (q:=fun _=>False) rfl).elim) ?_
  refine bF (.bool true) _ _ (fun y=>rfl) rfl (fun y=>rfl) (fun y FF hA=>(dI.fact (hA 4 dec) (q:=fun _=>False) rfl).elim) ?_
  refine cZ ?_
  intro y hA
  exact(dI.fact (hA 4 (by exact Nat.le_of_ble_eq_true rfl)) (q:=fun _=>False) rfl).elim
 ·refine rT dh 1 rfl ?_
  refine wN [pz 0 [] [0],pz 1 [0] [],pz 3 [1] [],pz 7 [2] [],pz 15 [3] [],pz 31 [4] [],pz 0 [] [0],pz 64 [6] [],pz 192 [7] [],pz 448 [8] [],pz 991 [9] [],pz 2015 [10] [],pz 0 [] [0],pz 4096 [12] [],pz 12288 [13] [],pz 28672 [14] [],pz 63455 [15] [],pz 128991 [16] [],pz 129023 [5] [],pz 393215 [11] [],pz 1048575 [17] []] [⟨fun y=>ai b 223 [.pointer (soz bl),I6 sz,I6 mo,.slice po no co,.bool s.ended,I6 0,I6 s.kind,I6 (s.left:Int),.bool s.last,li,di,I6 (s.ax:Int),I6 (s.cm:Int)],none,none,[3,9,10,15]⟩,⟨fun y=>LW bl B a [] 0,none,some 4,[]⟩,⟨fun y=>LW bl B (a+5) [] 0,some 4,none,[10]⟩] F V.mixed ?_
  refine nM ?_
  refine nN ?_
  refine nG V.iC ?_
  refine nR (fun y FF hA=>aB V.hI rfl ay rfl) ?_
  refine nE (fun y FF hA=>aO (Post:=[LW bl B (a+5) [] 0]) (fQ bl B a [] 0 5 hl hB omg omg) V.fb rfl (an .nil) (fun v G h=>by rcases h with⟨rfl,rfl⟩;exact⟨rfl,.refl _⟩)) ?_
  refine nV (fun y hA L=>dw rfl rfl wI) ?_
  refine nM ?_
  refine nN ?_
  refine nG V.iC ?_
  refine nR (fun y FF hA=>aB V.hI rfl ay rfl) ?_
  refine bF (undef) _ _ (fun y=>rfl) rfl (fun y=>rfl) (fun y FF hA=>gf (gw bl B (a+5) [] 0 5 hl hB omg omg omg) V.fb rfl (.cons ar .nil) (by rintro _ _ ⟨rfl,rfl⟩;exact mg (ab.tD omg) PE.end_ (aS (.cons ar .nil) (by exact Bo (M:=FF) (F:=F)) (fun w0 h hh=>cQ hh)))) ?_
  refine bF (.bool true) _ _ (fun y=>rfl) rfl (fun y=>rfl) (fun y FF hA=>(dI.fact (hA 10 dec) (q:=fun _=>False) rfl).elim) ?_
  refine nM ?_
  refine nN ?_
  refine nG V.iC ?_
  refine nR (fun y FF hA=>aB V.hI rfl ay rfl) ?_
  refine bF (.bool true) _ _ (fun y=>rfl) rfl (fun y=>rfl) (fun y FF hA=>(dI.fact (hA 10 dec) (q:=fun _=>False) rfl).elim) ?_
  refine bF (.bool true) _ _ (fun y=>rfl) rfl (fun y=>rfl) (fun y FF hA=>(dI.fact (hA 10 dec) (q:=fun _=>False) rfl).elim) ?_
  refine bF (.bool true) _ _ (fun y=>rfl) rfl (fun y=>rfl) (fun y FF hA=>(dI.fact (hA 10 dec) (q:=fun _=>False) rfl).elim) ?_
  refine bF (.bool true) _ _ (fun y=>rfl) rfl (fun y=>rfl) (fun y FF hA=>(dI.fact (hA 10 dec) (q:=fun _=>False) rfl).elim) ?_
  refine bF (.bool true) _ _ (fun y=>rfl) rfl (fun y=>rfl) (fun y FF hA=>(dI.fact (hA 10 dec) (q:=fun _=>False) rfl).elim) ?_
  refine cZ ?_
  intro y hA
  exact(dI.fact (hA 10 (by exact Nat.le_of_ble_eq_true rfl)) (q:=fun _=>False) rfl).elim
 ·refine rT dh 1 rfl ?_
  refine wN [pz 0 [] [0],pz 1 [0] [],pz 3 [1] [],pz 7 [2] [],pz 15 [3] [],pz 31 [4] [],pz 0 [] [0],pz 64 [6] [],pz 192 [7] [],pz 448 [8] [],pz 991 [9] [],pz 2015 [10] [],pz 0 [] [0],pz 4096 [12] [],pz 12288 [13] [],pz 28672 [14] [],pz 63455 [15] [],pz 128991 [16] [],pz 129023 [5] [],pz 393215 [11] [],pz 1048575 [17] []] [⟨fun y=>ai b 223 [.pointer (soz bl),I6 sz,I6 mo,.slice po no co,.bool s.ended,I6 0,I6 s.kind,I6 (s.left:Int),.bool s.last,li,di,I6 (s.ax:Int),I6 (s.cm:Int)],none,none,[3,9,15,16]⟩,⟨fun y=>LW bl B a [] 0,none,some 4,[]⟩,⟨fun y=>LW bl B (a+5) [] 0,some 4,some 10,[]⟩,⟨fun y=>LW bl B (a+10) [] 0,some 10,none,[16]⟩] F V.mixed ?_
  refine nM ?_
  refine nN ?_
  refine nG V.iC ?_
  refine nR (fun y FF hA=>aB V.hI rfl ay rfl) ?_
  refine nE (fun y FF hA=>aO (Post:=[LW bl B (a+5) [] 0]) (fQ bl B a [] 0 5 hl hB omg omg) V.fb rfl (an .nil) (fun v G h=>by rcases h with⟨rfl,rfl⟩;exact⟨rfl,.refl _⟩)) ?_
  refine nV (fun y hA L=>dw rfl rfl wI) ?_
  refine nM ?_
  refine nN ?_
  refine nG V.iC ?_
  refine nR (fun y FF hA=>aB V.hI rfl ay rfl) ?_
  refine nE (fun y FF hA=>aO (Post:=[LW bl B (a+10) [] 0]) (fQ bl B (a+5) [] 0 5 hl hB omg omg) V.fb rfl (an .nil) (fun v G h=>by rcases h with⟨rfl,rfl⟩;exact⟨rfl,.refl _⟩)) ?_
  refine nV (fun y hA L=>dw rfl rfl wI) ?_
  refine nM ?_
  refine nN ?_
  refine nG V.iC ?_
  refine nR (fun y FF hA=>aB V.hI rfl ay rfl) ?_
  refine bF (undef) _ _ (fun y=>rfl) rfl (fun y=>rfl) (fun y FF hA=>gf (gw bl B (a+10) [] 0 4 hl hB omg omg omg) V.fb rfl (.cons ar .nil) (by rintro _ _ ⟨rfl,rfl⟩;exact mg (ab.tD omg) PE.end_ (aS (.cons ar .nil) (by exact Bo (M:=FF) (F:=F)) (fun w0 h hh=>cQ hh)))) ?_
  refine bF (.bool true) _ _ (fun y=>rfl) rfl (fun y=>rfl) (fun y FF hA=>(dI.fact (hA 16 dec) (q:=fun _=>False) rfl).elim) ?_
  refine bF (.bool true) _ _ (fun y=>rfl) rfl (fun y=>rfl) (fun y FF hA=>(dI.fact (hA 16 dec) (q:=fun _=>False) rfl).elim) ?_
  refine bF (.bool true) _ _ (fun y=>rfl) rfl (fun y=>rfl) (fun y FF hA=>(dI.fact (hA 16 dec) (q:=fun _=>False) rfl).elim) ?_
  refine bF (.bool true) _ _ (fun y=>rfl) rfl (fun y=>rfl) (fun y FF hA=>(dI.fact (hA 16 dec) (q:=fun _=>False) rfl).elim) ?_
  refine cZ ?_
  intro y hA
  exact(dI.fact (hA 16 (by exact Nat.le_of_ble_eq_true rfl)) (q:=fun _=>False) rfl).elim
 ·refine rT dh 1 rfl ?_
  refine wN [pz 0 [] [0],pz 1 [0] [],pz 3 [1] [],pz 7 [2] [],pz 15 [3] [],pz 31 [4] [],pz 0 [] [0],pz 64 [6] [],pz 192 [7] [],pz 448 [8] [],pz 991 [9] [],pz 2015 [10] [],pz 0 [] [0],pz 4096 [12] [],pz 12288 [13] [],pz 28672 [14] [],pz 63455 [15] [],pz 128991 [16] [],pz 129023 [5] [],pz 393215 [11] [],pz 1048575 [17] []] [⟨fun y=>ai b 223 [.pointer (soz bl),I6 sz,I6 mo,.slice po no co,.bool s.ended,I6 0,I6 s.kind,I6 (s.left:Int),.bool s.last,li,di,I6 (s.ax:Int),I6 (s.cm:Int)],none,none,[3,9,15]⟩,⟨fun y=>LW bl B a [] 0,none,some 4,[]⟩,⟨fun y=>LW bl B (a+5) [] 0,some 4,some 10,[]⟩,⟨fun y=>LW bl B (a+10) [] 0,some 10,some 16,[]⟩,⟨fun y=>LW bl B (a+14) [] 0,some 16,none,[]⟩] F V.mixed ?_
  refine nM ?_
  refine nN ?_
  refine nG V.iC ?_
  refine nR (fun y FF hA=>aB V.hI rfl ay rfl) ?_
  refine nE (fun y FF hA=>aO (Post:=[LW bl B (a+5) [] 0]) (fQ bl B a [] 0 5 hl hB omg omg) V.fb rfl (an .nil) (fun v G h=>by rcases h with⟨rfl,rfl⟩;exact⟨rfl,.refl _⟩)) ?_
  refine nV (fun y hA L=>dw rfl rfl wI) ?_
  refine nM ?_
  refine nN ?_
  refine nG V.iC ?_
  refine nR (fun y FF hA=>aB V.hI rfl ay rfl) ?_
  refine nE (fun y FF hA=>aO (Post:=[LW bl B (a+10) [] 0]) (fQ bl B (a+5) [] 0 5 hl hB omg omg) V.fb rfl (an .nil) (fun v G h=>by rcases h with⟨rfl,rfl⟩;exact⟨rfl,.refl _⟩)) ?_
  refine nV (fun y hA L=>dw rfl rfl wI) ?_
  refine nM ?_
  refine nN ?_
  refine nG V.iC ?_
  refine nR (fun y FF hA=>aB V.hI rfl ay rfl) ?_
  refine nE (fun y FF hA=>aO (Post:=[LW bl B (a+14) [] 0]) (fQ bl B (a+10) [] 0 4 hl hB omg omg) V.fb rfl (an .nil) (fun v G h=>by rcases h with⟨rfl,rfl⟩;exact⟨rfl,.refl _⟩)) ?_
  refine nV (fun y hA L=>dw rfl rfl wI) ?_
  iterate 3 refine nA ?_
  refine cZ ?_
  intro y hA
  clear hA
  refine bJ ?_
  refine bW _ (.cons (d:=0) rfl (.cons (d:=2) rfl (.cons (d:=3) rfl (.cons (d:=4) rfl (.nil _))))) ?_
  refine bA (M:=ai b 223 [.pointer (soz bl),I6 sz,I6 mo,.slice po no co,.bool s.ended,I6 0,I6 s.kind,I6 (s.left:Int),.bool s.last,li,di,I6 (s.ax:Int),I6 (s.cm:Int)]::LW bl B (a+14) [] 0::F) (fun _ _ h=>h) ?_
  rcases(ab.UC (ab.hL B a≤286) (ab.hD B a≤30)) with⟨hq1,hq2⟩|⟨hq1,hq2⟩|hq1
  ·refine rC dh 1 rfl ?_
   rw[he1,he2,he3]
   refine rC dh 2 rfl ?_
   refine oV (bQ (il rfl rfl) omg) ?_
   refine rO dh 2 rfl ?_
   refine bB rfl ?_
   refine oV (bQ (il rfl rfl) omg) ?_
   refine oV (ow rfl rfl) ?_
   refine oC (qt 4) V.mF rfl .nil rfl ?_
   refine rO dh 4 rfl ?_
   refine aQ (Fm 0 19 omg) V.FQ rfl .nil rfl ?_
   rintro _ _ ⟨p37,c37,rfl,rfl⟩
   refine rO dh 6 rfl ?_
   refine aQ (PG) V.acM rfl .nil rfl ?_
   rintro _ _ ⟨p38,rfl,rfl⟩
   refine oV (jh rfl) ?_
   refine oV (iO (ab.hC B a) _ V.cy rfl ⟨_,rfl⟩ rfl omg omg) ?_
   refine rO dh 5 rfl ?_
   rw[←ab.z8 B (a+14)]
   rw[show LW bl B (a+14) [] 0=LW bl B (a+14+3*0) [] 0 from rfl]
   refine cF (fun(k:Nat)=>[(0,.pointer (soz b)),(2,I6 (ab.hL B a:Int)),(3,I6 (ab.hD B a:Int)),(5,.slice p37 19 c37),(40,.slice p38 (ab.hC B a) 19),(41,I6 ((ab.hC B a):Int)),(42,I6 (k:Int))]) (fun(k:Nat)=>Row I3 p37 19 c37 (ab.gG B (a+14) k)::Row I3 p38 19 19 ab.kx::ai b 223 [.pointer (soz bl),I6 sz,I6 mo,.slice po no co,.bool s.ended,I6 0,I6 s.kind,I6 (s.left:Int),.bool s.last,li,di,I6 (s.ax:Int),I6 (s.cm:Int)]::LW bl B (a+14+3*k) [] 0::F) (fun(k:Nat)=>k≤ab.hC B a∧a+14+3*k≤8*B.length) (fun(k:Nat)=>ab.hC B a-k) (i1 (0) ?_ (fF (bb ln)) (sub (.cons ar (dV .nil)) aj)) ?_
   ·exact⟨Nat.zero_le _,omg⟩
   intro k
   rintro⟨hk,hk2⟩
   refine rL dh 6 rfl ?_
   refine av rfl (fun h43=>?_) (fun h43=>?_)
   ·refine rC dh 5 rfl ?_
    have hoo:0≤I3.g ab.kx (k:Int)∧I3.g ab.kx (k:Int)<19:=ab.D1 (k:=k) omg
    refine eS ?_
    refine oV (EB (c:=(I3)) V.cy rfl rfl (by exact(own cX).take _ omg) omg omg) ?_
    refine oV (xL V.s3 (own cX)) ?_
    refine rO dh 3 rfl ?_
    rcases(Nat.lt_or_ge (8*B.length) ((a+14+3*k)+3)) with hx|hx
    ·refine rC dh 6 rfl ?_
     refine oV (aB V.hI rfl dz rfl) ?_
     refine dY (gw bl B (a+14+3*k) [] 0 3 hl hB omg omg omg) V.fb rfl (.cons cB .nil) ?_
     rintro _ _ ⟨rfl,rfl⟩
     refine(fC (dK (dK (fC (dK ?_)))))
     exact ef (ab.AW h14 ⟨hq1,hq2⟩ omg) PE.end_ (aS (.cons cB .nil) iW (fun w0 h hh=>cQ hh))
    ·refine rC dh 6 rfl ?_
     refine oV (aB V.hI rfl dz rfl) ?_
     refine oC (fQ bl B (a+14+3*k) [] 0 3 hl hB omg omg) V.fb rfl (.cons cB .nil) rfl ?_
     refine oV (xI V.cy (own cX)) ?_
     refine cC (mK (c:=(I3)) (_) V.s3 rfl rfl rfl (by exact qn) omg omg rfl rfl) ?_
     refine jC dh 7 rfl omg ?_
     rw[show(ab.gG B (a+14) k).set (I3.g ab.kx (k:Int)).toNat (ag.aG B (a+14+3*k) 3)=ab.gG B (a+14) (k+1) from(ab.BZ B (a+14) k).symm]
     rw[show a+14+3*k+3=a+14+3*(k+1) from by omega]
     refine j1 (k+1) ?_ (fF (bb ln)) (sub (.cons ar (.cons ar (.cons ar (an .nil)))) aj)
     exact⟨⟨omg,omg⟩,omg⟩
   ·refine rC dh 5 rfl ?_
    rcases(Classical.em (ae.bp (ab.bX B a)=0)) with hy|hy
    ·refine rC dh 1 rfl ?_
     have hkC:k=ab.hC B a:=omg
     rw[show ab.gG B (a+14) k=ab.bX B a from by rw[hkC];exact(ab.qZ B a).symm,show a+14+3*k=ab.dG B a from by omega]
     have hta:ab.dG B a≤8*B.length:=omg
     refine rC dh 2 rfl ?_
     refine aQ (mV p37 19 c37 (ab.bX B a) (Row I3 p37 19 c37 (ab.bX B a)) (ab.fc B a).symm (fun _ _ hh=>ni (ab.fc B a).symm hh) hy) V.pO rfl (an .nil) rfl ?_
     rintro _ _ ⟨bc,rfl,rfl⟩
     refine rO dh 10 rfl ?_
     refine gL (Row I3 none 0 0 []) (Row.nil _ _ _) ?_
     refine tZ (fun(l:List Int) (f:Nat) (x:Nat) (pr:Option Addr) (cr:Nat)=>[(0,.pointer (soz b)),(2,I6 (ab.hL B a:Int)),(3,I6 (ab.hD B a:Int)),(8,.pointer (soz bc)),(9,.slice pr l.length cr)]) (fun(l:List Int) (f:Nat) (x:Nat) (pr:Option Addr) (cr:Nat)=>Row I3 pr l.length cr l::HC bc (ab.bX B a)::ai b 223 [.pointer (soz bl),I6 sz,I6 mo,.slice po no co,.bool s.ended,I6 0,I6 s.kind,I6 (s.left:Int),.bool s.last,li,di,I6 (s.ax:Int),I6 (s.cm:Int)]::LW bl B x [] 0::F) (fun(l:List Int) (f:Nat) (x:Nat) (pr:Option Addr) (cr:Nat)=>ab.fg B (ab.bX B a) (ab.cu B a) (ab.cu B a) [] (ab.dG B a)=ab.fg B (ab.bX B a) (ab.cu B a) f l x∧(ab.cu B a)≤f+l.length∧l.length≤(ab.cu B a)∧x≤8*B.length) (fun(l:List Int) (f:Nat) (x:Nat) (pr:Option Addr) (cr:Nat)=>(ab.cu B a)-l.length) (i5 ([]) ((ab.cu B a)) ((ab.dG B a)) (none) (0) ?_ (bb ln) (sub (aJ (.cons aL (.cons aL .nil))) dC)) ?_
     ·exact⟨rfl,Nat.le_add_right _ _,Nat.zero_le _,hta⟩
     intro l f x pr cr
     rintro⟨hg,hf,hlt,hx⟩
     refine EK dh 11 rfl omg ?_
     refine av rfl (fun h62=>?_) (fun h62=>?_)
     ·refine rC dh 3 rfl ?_
      rcases(ab.FW B (ab.bX B a) l x) with⟨e,hs⟩|⟨sy,x2,e,hs,hr⟩|⟨sy,x2,xx,nn,x3,hs,hr⟩
      ·refine rC dh 7 rfl ?_
       refine oV (aB V.hI rfl dz rfl) ?_
       refine dY ((pJ bc (ab.bX B a) bl B x [] 0 hy hl hB hx).err hs) V.sZ rfl (.cons ar (.cons aL .nil)) ?_
       rintro _ _ ⟨hp,rfl⟩
       refine(dK (fC (dK (fC (dK ?_)))))
       exact ef (ab.jR h14 ⟨hq1,hq2⟩ hta hy (hg.trans (ab.jy omg hf (ab.rJ hs)))) hp (aS (.cons ar .nil) bg (fun w0 h hh=>cQ hh))
      ·refine rC dh 1 rfl ?_
       have hsz:=ab.sW hy (by rw[ab.fc];omega) hs
       rw[ab.fc] at hsz
       have hsy:0≤sy∧sy≤18:=omg
       have hx2:x2≤8*B.length:=omg
       refine rC dh 6 rfl ?_
       refine oV (aB V.hI rfl dz rfl) ?_
       refine oC ((pJ bc (ab.bX B a) bl B x [] 0 hy hl hB hx).ok hs) V.sZ rfl (.cons ar (.cons aL .nil)) rfl ?_
       refine oV (jh rfl) ?_
       refine dY ((Mu b bl sz mo po no co li di s B x2 sy pr cr l hsy hl hB hx2 omg).err hr) V.TV rfl (.cons cB (.cons ar (.cons ar .nil))) ?_
       rintro _ _ ⟨hp,rfl⟩
       refine(dK (fC (dK (fC (dK ?_)))))
       exact ef (ab.jR h14 ⟨hq1,hq2⟩ hta hy (hg.trans (ab.jy omg hf (ab.kD hs hr)))) hp (sub (an .nil) bg)
      ·refine rC dh 1 rfl ?_
       have hsz:=ab.sW hy (by rw[ab.fc];omega) hs
       rw[ab.fc] at hsz
       have hsy:0≤sy∧sy≤18:=omg
       have hx2:x2≤8*B.length:=omg
       have hrg:=ab.AG hx2 hr
       refine rC dh 6 rfl ?_
       refine oV (aB V.hI rfl dz rfl) ?_
       refine oC ((pJ bc (ab.bX B a) bl B x [] 0 hy hl hB hx).ok hs) V.sZ rfl (.cons ar (.cons aL .nil)) rfl ?_
       refine oV (jh rfl) ?_
       refine oC ((Mu b bl sz mo po no co li di s B x2 sy pr cr l hsy hl hB hx2 omg).ok hr) V.TV rfl (.cons cB (.cons ar (.cons ar .nil))) rfl ?_
       refine rO dh 12 rfl ?_
       refine aQ (Jo xx nn omg) V.FQ rfl .nil rfl ?_
       rintro _ _ ⟨p78,c78,rfl,rfl⟩
       refine ei (c:=(I3)) V.cy V.z3 rfl rfl rfl rfl cB (own ay) omg rfl ?_
       intro p79 c79
       refine rO dh 3 rfl ?_
       rcases(Nat.lt_or_ge (ab.cu B a) (l.length+nn.toNat)) with hbg|hbg
       ·refine mf dh 6 rfl omg ?_
        refine oV (bC (il rfl rfl) omg) ?_
        refine dY (mE 4) V.mF rfl .nil ?_
        rintro _ _ ⟨rfl,rfl⟩
        refine(fC (dK (fC (dK ?_))))
        exact ef (ab.jR h14 ⟨hq1,hq2⟩ hta hy (hg.trans (ab.oJ omg hf (ab.hJ hs hr) (by rw[List.length_append,List.length_replicate];omega)))) (PE.no dec) (aS (.cons aL .nil) gF (fun w0 h hh=>cQ hh))
       ·refine mf dh 6 rfl omg ?_
        refine oV (bQ (il rfl rfl) omg) ?_
        refine oC (qt 4) V.mF rfl .nil rfl ?_
        refine rO dh 2 rfl ?_
        rw[show l.length+nn.toNat=(l++List.replicate nn.toNat xx).length from by rw[List.length_append,List.length_replicate]]
        have hll:(l++List.replicate nn.toNat xx).length=l.length+nn.toNat:=by rw[List.length_append,List.length_replicate]
        refine j5 (l++List.replicate nn.toNat xx) (f-1) (x3) (_) (_) ?_ (bb ln) (sub (an (.cons cB (.cons ar (.cons ar .nil)))) bg)
        exact⟨⟨hg.trans (ab.l5 omg hf (ab.hJ hs hr) omg),omg,omg,omg⟩,omg⟩
     ·refine rC dh 5 rfl ?_
      rcases(ab.UC (ae.bp (l.take (ab.hL B a))=0) (ae.bp (l.drop (ab.hL B a))=0)) with⟨hc1,hc2⟩|⟨hc1,hc2⟩|hc1
      ·refine rC dh 1 rfl ?_
       have hlt:l.length=ab.cu B a:=omg
       have hz:=hg.trans (ab.mG (B:=B) (c:=ab.bX B a) (f:=f) (a:=x) (show ab.cu B a≤l.length by omega))
       refine wF (p:=pr) (n:=l.length) (cap:=cr) (l:=l) (c:=I3) ay fun hcap=>?_
       refine jE [pz 0 [] [0],pz 0 [] [0],pz 0 [] [9],pz 0 [] [2],pz 12 [2,3] [],pz 28 [4] [],pz 0 [] [9],pz 0 [] [2],pz 192 [6,7] [],pz 508 [8] [],pz 1021 [0] [],pz 2045 [10] [],pz 4093 [11,5] [],pz 8191 [1] [],pz 16383 [13] [],pz 32767 [14,9] []] [⟨fun y=>Row I3 pr l.length cr l,none,some 5,[]⟩,⟨fun y=>HC bc (ab.bX B a),none,none,[]⟩,⟨fun y=>ai b 223 [.pointer (soz bl),I6 sz,I6 mo,.slice po no co,.bool s.ended,I6 0,I6 s.kind,I6 (s.left:Int),.bool s.last,li,di,I6 (s.ax:Int),I6 (s.cm:Int)],none,some 12,[]⟩,⟨fun y=>LW bl B x [] 0,none,none,[]⟩,⟨fun y=>HC (eG (y 5)) (l.take (ab.hL B a)),some 5,none,[]⟩,⟨fun y=>Row I3 pr l.length cr l,some 5,some 9,[]⟩,⟨fun y=>HC (eG (y 9)) (l.drop (ab.hL B a)),some 9,none,[]⟩,⟨fun y=>Row I3 pr l.length cr l,some 9,none,[]⟩,⟨fun y=>ai b 223 [.pointer (soz bl),I6 sz,I6 mo,.slice po no co,.bool s.ended,I6 0,I6 s.kind,I6 (s.left:Int),.bool s.last,.pointer (some ⟨eG (y 5),0,none⟩),di,I6 (s.ax:Int),I6 (s.cm:Int)],some 12,some 15,[]⟩,⟨fun y=>ai b 223 [.pointer (soz bl),I6 sz,I6 mo,.slice po no co,.bool s.ended,I6 0,I6 s.kind,I6 (s.left:Int),.bool s.last,.pointer (some ⟨eG (y 5),0,none⟩),.pointer (some ⟨eG (y 9),0,none⟩),I6 (s.ax:Int),I6 (s.cm:Int)],some 15,none,[]⟩] F V.mixed (by kernel_rfl) rfl (fun _=>.refl _) (aU _ (aU _ (aU _ (aU _ (dq _ rfl (by intro y y2 h;simp only[h 5 (.inl rfl)]) (dq _ rfl (by intro y y2 h;rfl) (dq _ rfl (by intro y y2 h;simp only[h 9 (.inl rfl)]) (dq _ rfl (by intro y y2 h;rfl) (dq _ rfl (by intro y y2 h;simp only[h 5 (.inr dec)]) (dq _ rfl (by intro y y2 h;simp only[h 5 (.inr dec),h 9 (.inr dec)]) fw)))))))))) ?_
       iterate 4 refine nM ?_
       refine nV (fun y hA L=>iO (ab.hL B a) _ V.cy rfl ⟨_,rfl⟩ rfl omg omg) ?_
       refine fh (fun y v=>.pointer (some ⟨eG v,0,none⟩)) (fun y v=>True) _ _ (fun y v=>[HC (eG v) (l.take (ab.hL B a)),Row I3 pr l.length cr l]) _ (fun y=>rfl) (fun y=>rfl) (fun y=>rfl) (fun y=>rfl) (fun y FF hA=>rm (A:=fun z=>HC z (l.take (ab.hL B a))) (Post:=[Row I3 pr l.length cr l]) (mV pr (ab.hL B a) cr (l.take (ab.hL B a)) (Row I3 pr l.length cr l) (by(rw[List.length_take];omega)) (fun _ _ hh=>mI rfl omg hh) hc1) V.pO rfl (an .nil)) (by intros;rfl) (by intros;rfl) (by intros;rfl) (by intro y y2 h;simp only[h 5 (.inl rfl)]) (by intro y y2 h;rfl) ?_
       iterate 2 refine nM ?_
       refine nV (fun y hA L=>dZ (ab.hL B a) _ _ V.cy rfl ⟨_,rfl⟩ ⟨rfl,rfl⟩ rfl omg omg omg) ?_
       refine fh (fun y v=>.pointer (some ⟨eG v,0,none⟩)) (fun y v=>True) _ _ (fun y v=>[HC (eG v) (l.drop (ab.hL B a)),Row I3 pr l.length cr l]) _ (fun y=>rfl) (fun y=>rfl) (fun y=>rfl) (fun y=>rfl) (fun y FF hA=>rm (A:=fun z=>HC z (l.drop (ab.hL B a))) (Post:=[Row I3 pr l.length cr l]) (mV (cM pr (ab.hL B a) cr 1) (l.length-(ab.hL B a)) (cr-(ab.hL B a)) (l.drop (ab.hL B a)) (Row I3 pr l.length cr l) (by rw[List.length_drop]) (fun _ _ hh=>mB rfl omg hcap hh) hc2) V.pO rfl (an .nil)) (by intros;rfl) (by intros;rfl) (by intros;rfl) (by intro y y2 h;simp only[h 9 (.inl rfl)]) (by intro y y2 h;rfl) ?_
       refine nN ?_
       refine nG V.BH ?_
       refine nE (fun y FF hA=>dm (ew V.Cr rfl rfl rfl (by exact ft) (by exact Nat.le_of_ble_eq_true rfl) rfl) ⟨rfl,.refl _⟩) ?_
       refine nN ?_
       refine nG V.xX ?_
       refine nE (fun y FF hA=>dm (ew V.Cr rfl rfl rfl (by exact ft) (by exact Nat.le_of_ble_eq_true rfl) rfl) ⟨rfl,.refl _⟩) ?_
       refine cZ ?_
       intro y hA
       clear hA
       refine bJ ?_
       refine bW _ (.cons (d:=9) rfl (.nil _)) ?_
       refine bA (M:=HC bc (ab.bX B a)::LW bl B x [] 0::HC (eG (y 5)) (l.take (ab.hL B a))::HC (eG (y 9)) (l.drop (ab.hL B a))::Row I3 pr l.length cr l::ai b 223 [.pointer (soz bl),I6 sz,I6 mo,.slice po no co,.bool s.ended,I6 0,I6 s.kind,I6 (s.left:Int),.bool s.last,.pointer (some ⟨eG (y 5),0,none⟩),.pointer (some ⟨eG (y 9),0,none⟩),I6 (s.ax:Int),I6 (s.cm:Int)]::F) (fun _ _ h=>h) ?_
       generalize(eG (y 5))=q92
       generalize(eG (y 9))=q96
       rcases(Classical.em (l.getD 256 0=0)) with hend|hend
       ·have hnn:=ab.CV hc1 256
        rw[ab.getD_take (show 256<ab.hL B a by omega)] at hnn
        refine rC dh 2 rfl ?_
        refine oV (xI V.cy (own ic)) ?_
        refine oV (xL V.s3 (own ic)) ?_
        refine oV (bC (cR rfl rfl) (by rw[show I3.g l 256=l.getD 256 0 from rfl];omega)) ?_
        refine dY (mE 4) V.mF rfl .nil ?_
        rintro _ _ ⟨rfl,rfl⟩
        skip
        exact ef (ab.nw h14 ⟨hq1,hq2⟩ hta hy hz (.inr (.inr hend))) (PE.no dec) (aS (.cons jX .nil) NI (fun w0 h hh=>cQ hh))
       ·have hnn:=ab.CV hc1 256
        rw[ab.getD_take (show 256<ab.hL B a by omega)] at hnn
        refine rC dh 2 rfl ?_
        refine oV (xI V.cy (own ic)) ?_
        refine oV (xL V.s3 (own ic)) ?_
        refine oV (bQ (cR rfl rfl) (by rw[show I3.g l 256=l.getD 256 0 from rfl];omega)) ?_
        refine oC (qt 4) V.mF rfl .nil rfl ?_
        refine ga ?_
        exact iH (ab.AA h14 ⟨hq1,hq2⟩ hta hy hz hc1 hc2 hend) fI ⟨_,_,rfl,rfl⟩ (sub (.cons jX (.cons ar (.cons ar (.cons ar .nil)))) dC)
      ·refine rC dh 1 rfl ?_
       have hlt:l.length=ab.cu B a:=omg
       have hz:=hg.trans (ab.mG (B:=B) (c:=ab.bX B a) (f:=f) (a:=x) (show ab.cu B a≤l.length by omega))
       refine wF (p:=pr) (n:=l.length) (cap:=cr) (l:=l) (c:=I3) ay fun hcap=>?_
       refine jE [pz 0 [] [0],pz 0 [] [0],pz 0 [] [9],pz 0 [] [2],pz 12 [2,3] [],pz 28 [4] [],pz 0 [] [9],pz 0 [] [2],pz 192 [6,7] [],pz 508 [8] [],pz 1021 [0] [],pz 2045 [10] [],pz 4093 [11,5] [],pz 8191 [1] [],pz 16383 [13] [],pz 32767 [14,9] []] [⟨fun y=>Row I3 pr l.length cr l,none,some 5,[]⟩,⟨fun y=>HC bc (ab.bX B a),none,none,[]⟩,⟨fun y=>ai b 223 [.pointer (soz bl),I6 sz,I6 mo,.slice po no co,.bool s.ended,I6 0,I6 s.kind,I6 (s.left:Int),.bool s.last,li,di,I6 (s.ax:Int),I6 (s.cm:Int)],none,none,[9]⟩,⟨fun y=>LW bl B x [] 0,none,none,[]⟩,⟨fun y=>HC (eG (y 5)) (l.take (ab.hL B a)),some 5,none,[]⟩,⟨fun y=>Row I3 pr l.length cr l,some 5,none,[9]⟩] F V.mixed (by kernel_rfl) rfl (fun _=>.refl _) (aU _ (aU _ (aU _ (aU _ (dq _ rfl (by intro y y2 h;simp only[h 5 (.inl rfl)]) (dq _ rfl (by intro y y2 h;rfl) fw)))))) ?_
       iterate 4 refine nM ?_
       refine nV (fun y hA L=>iO (ab.hL B a) _ V.cy rfl ⟨_,rfl⟩ rfl omg omg) ?_
       refine fh (fun y v=>.pointer (some ⟨eG v,0,none⟩)) (fun y v=>True) _ _ (fun y v=>[HC (eG v) (l.take (ab.hL B a)),Row I3 pr l.length cr l]) _ (fun y=>rfl) (fun y=>rfl) (fun y=>rfl) (fun y=>rfl) (fun y FF hA=>rm (A:=fun z=>HC z (l.take (ab.hL B a))) (Post:=[Row I3 pr l.length cr l]) (mV pr (ab.hL B a) cr (l.take (ab.hL B a)) (Row I3 pr l.length cr l) (by(rw[List.length_take];omega)) (fun _ _ hh=>mI rfl omg hh) hc1) V.pO rfl (an .nil)) (by intros;rfl) (by intros;rfl) (by intros;rfl) (by intro y y2 h;simp only[h 5 (.inl rfl)]) (by intro y y2 h;rfl) ?_
       iterate 2 refine nM ?_
       refine nV (fun y hA L=>dZ (ab.hL B a) _ _ V.cy rfl ⟨_,rfl⟩ ⟨rfl,rfl⟩ rfl omg omg omg) ?_
       refine bF (undef) _ _ (fun y=>rfl) rfl (fun y=>rfl) (fun y FF hA=>gf (yk (cM pr (ab.hL B a) cr 1) (l.length-(ab.hL B a)) (cr-(ab.hL B a)) (l.drop (ab.hL B a)) (Row I3 pr l.length cr l) (by rw[List.length_drop]) (fun _ _ hh=>mB rfl omg hcap hh) hc2) V.pO rfl (.cons ar .nil) (by rintro _ _ ⟨hp,rfl⟩;exact mg (ab.nw h14 ⟨hq1,hq2⟩ hta hy hz (.inr (.inl hc2))) hp (aS (an .nil) (by exact zg (M:=FF) (F:=F)) (fun w0 h hh=>cQ hh)))) ?_
       refine bF (.bool true) _ _ (fun y=>rfl) rfl (fun y=>rfl) (fun y FF hA=>(dI.fact (hA 9 dec) (q:=fun _=>False) rfl).elim) ?_
       refine bF (.bool true) _ _ (fun y=>rfl) rfl (fun y=>rfl) (fun y FF hA=>(dI.fact (hA 9 dec) (q:=fun _=>False) rfl).elim) ?_
       refine bF (.bool true) _ _ (fun y=>rfl) rfl (fun y=>rfl) (fun y FF hA=>(dI.fact (hA 9 dec) (q:=fun _=>False) rfl).elim) ?_
       refine bF (.bool true) _ _ (fun y=>rfl) rfl (fun y=>rfl) (fun y FF hA=>(dI.fact (hA 9 dec) (q:=fun _=>False) rfl).elim) ?_
       refine bF (.bool true) _ _ (fun y=>rfl) rfl (fun y=>rfl) (fun y FF hA=>(dI.fact (hA 9 dec) (q:=fun _=>False) rfl).elim) ?_
       refine bF (.bool true) _ _ (fun y=>rfl) rfl (fun y=>rfl) (fun y FF hA=>(dI.fact (hA 9 dec) (q:=fun _=>False) rfl).elim) ?_
       refine cZ ?_
       intro y hA
       exact(dI.fact (hA 9 (by exact Nat.le_of_ble_eq_true rfl)) (q:=fun _=>False) rfl).elim
      ·refine rC dh 1 rfl ?_
       have hlt:l.length=ab.cu B a:=omg
       have hz:=hg.trans (ab.mG (B:=B) (c:=ab.bX B a) (f:=f) (a:=x) (show ab.cu B a≤l.length by omega))
       refine wF (p:=pr) (n:=l.length) (cap:=cr) (l:=l) (c:=I3) ay fun hcap=>?_
       refine wN [pz 0 [] [0],pz 0 [] [0],pz 0 [] [9],pz 0 [] [2],pz 12 [2,3] [],pz 28 [4] [],pz 0 [] [9],pz 0 [] [2],pz 192 [6,7] [],pz 508 [8] [],pz 1021 [0] [],pz 2045 [10] [],pz 4093 [11,5] [],pz 8191 [1] [],pz 16383 [13] [],pz 32767 [14,9] []] [⟨fun y=>Row I3 pr l.length cr l,none,none,[5]⟩,⟨fun y=>HC bc (ab.bX B a),none,none,[]⟩,⟨fun y=>ai b 223 [.pointer (soz bl),I6 sz,I6 mo,.slice po no co,.bool s.ended,I6 0,I6 s.kind,I6 (s.left:Int),.bool s.last,li,di,I6 (s.ax:Int),I6 (s.cm:Int)],none,none,[5]⟩,⟨fun y=>LW bl B x [] 0,none,none,[]⟩] F V.mixed ?_
       iterate 4 refine nM ?_
       refine nV (fun y hA L=>iO (ab.hL B a) _ V.cy rfl ⟨_,rfl⟩ rfl omg omg) ?_
       refine bF (undef) _ _ (fun y=>rfl) rfl (fun y=>rfl) (fun y FF hA=>gf (yk pr (ab.hL B a) cr (l.take (ab.hL B a)) (Row I3 pr l.length cr l) (by(rw[List.length_take];omega)) (fun _ _ hh=>mI rfl omg hh) hc1) V.pO rfl (an .nil) (by rintro _ _ ⟨hp,rfl⟩;exact mg (ab.nw h14 ⟨hq1,hq2⟩ hta hy hz (.inl hc1)) hp (aS (an .nil) (by exact zg (M:=FF) (F:=F)) (fun w0 h hh=>cQ hh)))) ?_
       iterate 2 refine nM ?_
       refine nV (fun y hA L=>dZ (ab.hL B a) _ _ V.cy rfl ⟨_,rfl⟩ ⟨rfl,rfl⟩ rfl omg omg omg) ?_
       refine bF (.bool true) _ _ (fun y=>rfl) rfl (fun y=>rfl) (fun y FF hA=>(dI.fact (hA 5 dec) (q:=fun _=>False) rfl).elim) ?_
       refine bF (.bool true) _ _ (fun y=>rfl) rfl (fun y=>rfl) (fun y FF hA=>(dI.fact (hA 5 dec) (q:=fun _=>False) rfl).elim) ?_
       refine bF (.bool true) _ _ (fun y=>rfl) rfl (fun y=>rfl) (fun y FF hA=>(dI.fact (hA 5 dec) (q:=fun _=>False) rfl).elim) ?_
       refine bF (.bool true) _ _ (fun y=>rfl) rfl (fun y=>rfl) (fun y FF hA=>(dI.fact (hA 5 dec) (q:=fun _=>False) rfl).elim) ?_
       refine bF (.bool true) _ _ (fun y=>rfl) rfl (fun y=>rfl) (fun y FF hA=>(dI.fact (hA 5 dec) (q:=fun _=>False) rfl).elim) ?_
       refine bF (.bool true) _ _ (fun y=>rfl) rfl (fun y=>rfl) (fun y FF hA=>(dI.fact (hA 5 dec) (q:=fun _=>False) rfl).elim) ?_
       refine bF (.bool true) _ _ (fun y=>rfl) rfl (fun y=>rfl) (fun y FF hA=>(dI.fact (hA 5 dec) (q:=fun _=>False) rfl).elim) ?_
       refine cZ ?_
       intro y hA
       exact(dI.fact (hA 5 (by exact Nat.le_of_ble_eq_true rfl)) (q:=fun _=>False) rfl).elim
    ·refine rC dh 1 rfl ?_
     have hkC:k=ab.hC B a:=omg
     rw[show ab.gG B (a+14) k=ab.bX B a from by rw[hkC];exact(ab.qZ B a).symm,show a+14+3*k=ab.dG B a from by omega]
     have hta:ab.dG B a≤8*B.length:=omg
     refine rC dh 2 rfl ?_
     refine dY (yk p37 19 c37 (ab.bX B a) (Row I3 p37 19 c37 (ab.bX B a)) (ab.fc B a).symm (fun _ _ hh=>ni (ab.fc B a).symm hh) hy) V.pO rfl (an .nil) ?_
     rintro _ _ ⟨hp,rfl⟩
     refine(dK ?_)
     exact ef (ab.BD h14 ⟨hq1,hq2⟩ hta hy) hp (aS (.cons ar .nil) dC (fun w0 h hh=>cQ hh))
  ·refine rC dh 1 rfl ?_
   rw[he1,he2,he3]
   refine rC dh 2 rfl ?_
   refine oV (bQ (il rfl rfl) omg) ?_
   refine rO dh 2 rfl ?_
   refine bB rfl ?_
   refine oV (bC (il rfl rfl) omg) ?_
   refine oV (ow rfl rfl) ?_
   refine dY (mE 4) V.mF rfl .nil ?_
   rintro _ _ ⟨rfl,rfl⟩
   refine(dK ?_)
   exact ef (ab.tw h14 omg) (PE.no dec) (aS (an .nil) bg (fun w0 h hh=>cQ hh))
  ·refine rC dh 1 rfl ?_
   rw[he1,he2,he3]
   refine rC dh 2 rfl ?_
   refine oV (bC (il rfl rfl) omg) ?_
   refine rO dh 4 rfl ?_
   refine dY (mE 4) V.mF rfl .nil ?_
   rintro _ _ ⟨rfl,rfl⟩
   refine(dK ?_)
   exact ef (ab.tw h14 omg) (PE.no dec) (aS (an .nil) bg (fun w0 h hh=>cQ hh))
end Go.Proofs.YtmaiakpjgomnpaaGreat
namespace Go.Sl
def CD (li di:Value) (s:ab.St):ad:=fun w0 h=>s.kind≤0∨∃l d,li=.pointer (soz l)∧di=.pointer (soz d)∧cY w0 [HC l s.lits,HC d s.du] h
structure Pv where
  li:Value
  di:Value
def MM (b bl:Nat) (sz mo:Int) (B:List Int) (s:ab.St):ad:=fun w0 h=>∃i:Pv,True∧cY w0 [MS b bl sz mo i.li i.di s,LW bl B s.at_ [] 0,CD i.li i.di s] h
def zx{w0:World}{Bs:List ad}{A:ad}{h:Hp}(hA:∀h,cY w0 Bs h→A w0 h)(hh:cY w0 Bs h):cY w0 [A] h:=⟨h,fun _=>none,fun _=>.inr rfl,Hp.le_refl _,(fun _ _ e=>by cases e),hA h hh,trivial⟩
def rn{w0:World}{X:ad}{L L':List ad}{h:Hp}(k:∀h,cY w0 L h→cY w0 L' h)(hh:cY w0 (X::L) h):cY w0 (X::L') h:=by
  obtain⟨h1,h2,a,b,c,d,e⟩:=hh
  exact⟨h1,h2,a,b,c,d,k h2 e⟩
def o9{b bl:Nat}{sz mo:Int}{B:List Int}{s:ab.St}{li di:Value}{w0:World}{h:Hp}(hk:s.kind≤0)(hh:cY w0 [MS b bl sz mo li di s,LW bl B s.at_ [] 0] h):MM b bl sz mo B s w0 h:=
  ⟨⟨li,di⟩,trivial,rn (fun h hh=>rn (fun h hh=>zx (fun h _=>.inl hk) hh) hh) hh⟩
def nh{b bl l d:Nat}{sz mo:Int}{B:List Int}{s:ab.St}{w0:World}{h:Hp}(hh:cY w0 [MS b bl sz mo (.pointer (soz l)) (.pointer (soz d)) s,LW bl B s.at_ [] 0,HC l s.lits,HC d s.du] h):MM b bl sz mo B s w0 h:=
  ⟨⟨_,_⟩,trivial,rn (fun h hh=>rn (fun h hh=>zx (fun h hh=>.inr ⟨l,d,rfl,rfl,hh⟩) hh) hh) hh⟩
def gm{b bl:Nat}{sz mo:Int}{B:List Int}{s:ab.St}{li di:Value}{w0:World}{h:Hp}(hh:cY w0 [MS b bl sz mo li di s,LW bl B s.at_ [] 0,CD li di s] h):MM b bl sz mo B s w0 h:=⟨⟨li,di⟩,trivial,hh⟩
def Ea{li di:Value}{s:ab.St}{w0:World}{h:Hp}(hk:0<s.kind)(hh:CD li di s w0 h):∃i:Nat×Nat,(li=.pointer (some ⟨i.1,0,none⟩)∧di=.pointer (some ⟨i.2,0,none⟩))∧cY w0 [HC i.1 s.lits,HC i.2 s.du] h:=by
  rcases hh with hh|⟨l,d,h1,h2,h3⟩
  · exact absurd hk omg
  · exact⟨(l,d),⟨h1,h2⟩,h3⟩
def aA.fold{P:Program}{f:FuncId}{args:List Value}{A:ad}{Bs:List ad}{Post:Ending→List ad→Prop}(h:aA P f args [A] Post)(hA:∀w0 h,cY w0 Bs h→A w0 h):aA P f args Bs Post:=fun w0 F w hi=>h w0 F w (hi.cls (hA w0))
end Go.Sl
namespace Go.Proofs.YtmaiakpjgomnpaaGreat
open Go.Sl 
attribute [local irreducible] ae.bp ae.tk ae.ord ae.bV ae.words ae.cU ab.gG ab.bX ab.cu ab.dG ab.hL ab.hD ab.hC ab.fg ab.told ab.dO ab.jH ab.rep ab.eL ab.dQ ab.sym ab.cT ag.aG ab.eW ab.dk

def AZ(b bl:Nat)(sz mo:Int)(po:Option Addr)(no co:Nat)(li di:Value)(s:ab.St)(B:List Int)(a:Nat)(sy:Int)(h0:0≤sy∧sy<1000)(hl:B.length<500000000)(hB:ag.aq B)(ha:a≤8*B.length):aA Tryz.prog 202 [.pointer (soz b),I6 sy] [ai b 223 [.pointer (soz bl),I6 sz,I6 mo,.slice po no co,.bool s.ended,I6 0,I6 s.kind,I6 (s.left:Int),.bool s.last,li,di,I6 (s.ax:Int),I6 (s.cm:Int)],LW bl B a [] 0] (iP (ab.eL B sy a) (fun x v G=>v=I6 x.1∧G=[ai b 223 [.pointer (soz bl),I6 sz,I6 mo,.slice po no co,.bool s.ended,I6 0,I6 s.kind,I6 (s.left:Int),.bool s.last,li,di,I6 (s.ax:Int),I6 (s.cm:Int)],LW bl B x.2 [] 0]) [MX b bl sz mo]):=by
 refine ao [(0,_),(1,_)] Tryz.func202 rfl Tryz.ntmps202 rfl rfl ?_
 intro w0 F
 refine(QV) ?_
 rcases(Classical.em (sy<29)) with hq|hq
 ·refine(Q3)<|(NG)<|(Hs)<|(Qj) ?_
  refine av rfl (fun h9=>?_) (fun h9=>?_)
  ·exact mf TT 10 rfl omg<|lx (x:=(3+sy,a)) (ab.C7 h0.1 omg ha) (aw rfl) ⟨rfl,rfl⟩ (sub (aJ .nil) aj)
  ·refine(Qr) ?_
   refine av rfl (fun h14=>?_) (fun h14=>?_)
   ·refine(pB) ?_
    exact lx (x:=(258,a)) (ab.EO omg ha) (aw rfl) ⟨rfl,rfl⟩ (sub (aJ .nil) aj)
   ·refine(Qf)<|(qO)<|(uw) ?_
    rcases(Nat.lt_or_ge (8*B.length) (a+(ab.gD sy))) with hx|hx
    ·refine(Qa) ?_
     obtain⟨hk1,hk2,hk3⟩:=ab.BN (s:=sy) omg omg
     have hsh:=ab.mb (x:=4+sy%4) (n:=ab.gD sy) omg omg omg rfl
     have hnb:=ag.aX B a (ab.gD sy)
     have hnc:=ag.iQ (show ab.gD sy≤24 by omega)
     rw[hk1]
     refine wN [pz 0 [] [1],pz 1 [0] [],pz 3 [1] [],pz 0 [] [5],pz 15 [2,3] [],pz 31 [4] [],pz 0 [] [0],pz 64 [6] [],pz 192 [7] [],pz 448 [8] [],pz 0 [] [5],pz 1984 [9,10] [],pz 4095 [5,11] [],pz 8191 [12] []] [⟨fun y=>ai b 223 [.pointer (soz bl),I6 sz,I6 mo,.slice po no co,.bool s.ended,I6 0,I6 s.kind,I6 (s.left:Int),.bool s.last,li,di,I6 (s.ax:Int),I6 (s.cm:Int)],none,none,[9,11]⟩,⟨fun y=>LW bl B a [] 0,none,none,[11]⟩] F V.mixed ?_
     refine nM ?_
     refine nV (fun y hA L=>n7 rfl rfl omg (rA omg)) ?_
     refine nV (fun y hA L=>dw rfl rfl wI) ?_
     refine nM ?_
     refine nV (fun y hA L=>fk (r:=(4+sy%4)*2^ab.gD sy) rfl rfl omg hsh.1) ?_
     refine nV (fun y hA L=>dw rfl rfl wI) ?_
     refine nM ?_
     refine nN ?_
     refine nG V.iC ?_
     refine nR (fun y FF hA=>aB V.hI rfl ay rfl) ?_
     refine nM ?_
     refine bF (undef) _ _ (fun y=>rfl) rfl (fun y=>rfl) (fun y FF hA=>gf (gw bl B a [] 0 (ab.gD sy) hl hB omg omg omg) V.fb rfl (.cons ar .nil) (by rintro _ _ ⟨rfl,rfl⟩;exact mg (ab.yR omg omg hx) PE.end_ (aS (.cons ar .nil) (by exact Bo (M:=FF) (F:=F)) (fun w0 h hh=>cQ hh)))) ?_
     refine bF (.bool true) _ _ (fun y=>rfl) rfl (fun y=>rfl) (fun y FF hA=>(dI.fact (hA 11 dec) (q:=fun _=>False) rfl).elim) ?_
     refine bF (.bool true) _ _ (fun y=>rfl) rfl (fun y=>rfl) (fun y FF hA=>(dI.fact (hA 11 dec) (q:=fun _=>False) rfl).elim) ?_
     refine cZ ?_
     intro y hA
     exact(dI.fact (hA 11 (by exact Nat.le_of_ble_eq_true rfl)) (q:=fun _=>False) rfl).elim
    ·refine(Qa) ?_
     obtain⟨hk1,hk2,hk3⟩:=ab.BN (s:=sy) omg omg
     have hsh:=ab.mb (x:=4+sy%4) (n:=ab.gD sy) omg omg omg rfl
     have hnb:=ag.aX B a (ab.gD sy)
     have hnc:=ag.iQ (show ab.gD sy≤24 by omega)
     rw[hk1]
     refine wN [pz 0 [] [1],pz 1 [0] [],pz 3 [1] [],pz 0 [] [5],pz 15 [2,3] [],pz 31 [4] [],pz 0 [] [0],pz 64 [6] [],pz 192 [7] [],pz 448 [8] [],pz 0 [] [5],pz 1984 [9,10] [],pz 4095 [5,11] [],pz 8191 [12] []] [⟨fun y=>ai b 223 [.pointer (soz bl),I6 sz,I6 mo,.slice po no co,.bool s.ended,I6 0,I6 s.kind,I6 (s.left:Int),.bool s.last,li,di,I6 (s.ax:Int),I6 (s.cm:Int)],none,none,[9]⟩,⟨fun y=>LW bl B a [] 0,none,some 11,[]⟩,⟨fun y=>LW bl B (a+(ab.gD sy)) [] 0,some 11,none,[]⟩] F V.mixed ?_
     refine nM ?_
     refine nV (fun y hA L=>n7 rfl rfl omg (rA omg)) ?_
     refine nV (fun y hA L=>dw rfl rfl wI) ?_
     refine nM ?_
     refine nV (fun y hA L=>fk (r:=(4+sy%4)*2^ab.gD sy) rfl rfl omg hsh.1) ?_
     refine nV (fun y hA L=>dw rfl rfl wI) ?_
     refine nM ?_
     refine nN ?_
     refine nG V.iC ?_
     refine nR (fun y FF hA=>aB V.hI rfl ay rfl) ?_
     refine nM ?_
     refine nE (fun y FF hA=>aO (Post:=[LW bl B (a+(ab.gD sy)) [] 0]) (fQ bl B a [] 0 (ab.gD sy) hl hB omg omg) V.fb rfl (an .nil) (fun v G h=>by rcases h with⟨rfl,rfl⟩;exact⟨rfl,.refl _⟩)) ?_
     refine nV (fun y hA L=>dw rfl rfl wI) ?_
     refine nA ?_
     refine cZ ?_
     intro y hA
     clear hA
     refine bJ<|bW _ (.cons (d:=4) rfl (.nil _))<|bA (M:=ai b 223 [.pointer (soz bl),I6 sz,I6 mo,.slice po no co,.bool s.ended,I6 0,I6 s.kind,I6 (s.left:Int),.bool s.last,li,di,I6 (s.ax:Int),I6 (s.cm:Int)]::LW bl B (a+(ab.gD sy)) [] 0::F) (fun _ _ h=>h)<|(Qa) ?_
     exact lx (x:=(3+(4+sy%4)*2^ab.gD sy+ag.aG B a (ab.gD sy),a+ab.gD sy)) (ab.G9 omg omg hx) (aw rfl) ⟨rfl,rfl⟩ (sub (aJ .nil) aj)
 ·refine(Q3) ?_
  refine oV (bC (dD rfl rfl) hq)<|(EF) ?_
  rintro _ _ ⟨rfl,rfl⟩
  refine(dK ?_)
  exact ef (ab.BP omg) (PE.no dec) (aS (an .nil) bg (fun w0 h hh=>cQ hh))

def HE(b bl:Nat)(sz mo:Int)(po:Option Addr)(no co:Nat)(li:Value)(dd:Nat)(s:ab.St)(B ds:List Int)(a:Nat)(hE:ae.bp ds=0)(hd:0<ds.length)(hl:B.length<500000000)(hB:ag.aq B)(ha:a≤8*B.length):aA Tryz.prog 203 [.pointer (soz b)] [ai b 223 [.pointer (soz bl),I6 sz,I6 mo,.slice po no co,.bool s.ended,I6 0,I6 s.kind,I6 (s.left:Int),.bool s.last,li,(.pointer (soz dd)),I6 (s.ax:Int),I6 (s.cm:Int)],HC dd ds,LW bl B a [] 0] (iP (ab.dQ B ds a) (fun x v G=>v=I6 x.1∧G=[ai b 223 [.pointer (soz bl),I6 sz,I6 mo,.slice po no co,.bool s.ended,I6 0,I6 s.kind,I6 (s.left:Int),.bool s.last,li,(.pointer (soz dd)),I6 (s.ax:Int),I6 (s.cm:Int)],HC dd ds,LW bl B x.2 [] 0]) [MX b bl sz mo]):=by
 refine ao [(0,_)] Tryz.func203 rfl Tryz.ntmps203 rfl rfl ?_
 intro w0 F
 have hdl:=ab.qR hE
 refine(QV) ?_
 rcases(ab.qL (B:=B) (ls:=ds) (a:=a) hE hd) with⟨e,hs⟩|⟨sy,a3,hs,h0,h1,h2,h3⟩
 ·refine(Qa) ?_
  refine wN [pz 0 [] [0],pz 1 [0] [],pz 3 [1] [],pz 7 [2] [],pz 0 [] [0],pz 16 [4] [],pz 48 [5] [],pz 112 [6] [],pz 255 [3,7] [],pz 511 [8] []] [⟨fun y=>ai b 223 [.pointer (soz bl),I6 sz,I6 mo,.slice po no co,.bool s.ended,I6 0,I6 s.kind,I6 (s.left:Int),.bool s.last,li,(.pointer (soz dd)),I6 (s.ax:Int),I6 (s.cm:Int)],none,none,[3,7,8]⟩,⟨fun y=>HC dd ds,none,none,[8]⟩,⟨fun y=>LW bl B a [] 0,none,none,[8]⟩] F V.mixed ?_
  refine nM ?_
  refine nN ?_
  refine nG V.xX ?_
  refine(Mp) ?_
  refine nM ?_
  refine nN ?_
  refine(pG) ?_
  refine(pC) ?_
  refine bF (undef) _ _ (fun y=>rfl) rfl (fun y=>rfl) (fun y FF hA=>gf ((pJ dd ds bl B a [] 0 hE hl hB ha).err hs) V.sZ rfl (.cons ar (.cons ar .nil)) (by rintro _ _ ⟨hp,rfl⟩;exact mg (ab.Al hs) hp (aS (an .nil) (by exact zg (M:=FF) (F:=F)) (fun w0 h hh=>cQ hh)))) ?_
  refine(Q77) ?_
  refine(Qi) ?_
  intro y hA
  exact(dI.fact (hA 8 (by exact Nat.le_of_ble_eq_true rfl)) (q:=fun _=>False) rfl).elim
 ·refine(Qa) ?_
  refine wN [pz 0 [] [0],pz 1 [0] [],pz 3 [1] [],pz 7 [2] [],pz 0 [] [0],pz 16 [4] [],pz 48 [5] [],pz 112 [6] [],pz 255 [3,7] [],pz 511 [8] []] [⟨fun y=>ai b 223 [.pointer (soz bl),I6 sz,I6 mo,.slice po no co,.bool s.ended,I6 0,I6 s.kind,I6 (s.left:Int),.bool s.last,li,(.pointer (soz dd)),I6 (s.ax:Int),I6 (s.cm:Int)],none,none,[3,7]⟩,⟨fun y=>HC dd ds,none,some 8,[]⟩,⟨fun y=>LW bl B a [] 0,none,some 8,[]⟩,⟨fun y=>HC dd ds,some 8,none,[]⟩,⟨fun y=>LW bl B a3 [] 0,some 8,none,[]⟩] F V.mixed ?_
  refine nM ?_
  refine nN ?_
  refine nG V.xX ?_
  refine(Mp) ?_
  refine nM ?_
  refine nN ?_
  refine(pG) ?_
  refine(pC) ?_
  refine nE (fun y FF hA=>aO (Post:=[HC dd ds,LW bl B a3 [] 0]) ((pJ dd ds bl B a [] 0 hE hl hB ha).ok hs) V.sZ rfl (aJ .nil) (fun v G h=>by rcases h with⟨rfl,rfl⟩;exact⟨rfl,.refl _⟩)) ?_
  refine nA ?_
  refine(Qi) ?_
  intro y hA
  clear hA
  refine bJ<|(Up) ?_
  refine bA (M:=ai b 223 [.pointer (soz bl),I6 sz,I6 mo,.slice po no co,.bool s.ended,I6 0,I6 s.kind,I6 (s.left:Int),.bool s.last,li,(.pointer (soz dd)),I6 (s.ax:Int),I6 (s.cm:Int)]::HC dd ds::LW bl B a3 [] 0::F) (fun _ _ h=>h) ?_
  rcases(Classical.em (sy<30)) with hq|hq
  ·refine(Q3)<|(NG)<|(Hs)<|(Qn) ?_
   refine av rfl (fun h18=>?_) (fun h18=>?_)
   ·exact mf TT 9 rfl omg<|lx (x:=(1+sy,a3)) (ab.BE hs h0 omg h3) (aw rfl) ⟨rfl,rfl⟩ (sub (dV .nil) aj)
   ·refine(Qb)<|(qO)<|(uw) ?_
    rcases(Nat.lt_or_ge (8*B.length) (a3+(ab.gO sy))) with hx|hx
    ·refine(Qa) ?_
     obtain⟨hk1,hk2,hk3⟩:=ab.wm (s:=sy) omg omg
     have hsh:=ab.mb (x:=2+sy%2) (n:=ab.gO sy) omg omg omg rfl
     have hnb:=ag.aX B a3 (ab.gO sy)
     have hnc:=ag.iQ (show ab.gO sy≤24 by omega)
     rw[hk1]
     refine wN [pz 0 [] [3],pz 1 [0] [],pz 3 [1] [],pz 0 [] [4],pz 15 [2,3] [],pz 31 [4] [],pz 0 [] [0],pz 64 [6] [],pz 192 [7] [],pz 448 [8] [],pz 0 [] [4],pz 1984 [9,10] [],pz 4095 [5,11] [],pz 8191 [12] []] [⟨fun y=>ai b 223 [.pointer (soz bl),I6 sz,I6 mo,.slice po no co,.bool s.ended,I6 0,I6 s.kind,I6 (s.left:Int),.bool s.last,li,(.pointer (soz dd)),I6 (s.ax:Int),I6 (s.cm:Int)],none,none,[9,11]⟩,⟨fun y=>HC dd ds,none,none,[]⟩,⟨fun y=>LW bl B a3 [] 0,none,none,[11]⟩] F V.mixed ?_
     refine nM ?_
     refine(Vz) ?_
     refine(Qv) ?_
     refine nM ?_
     refine(Q78) ?_
     refine(Qv) ?_
     refine nM ?_
     refine nN ?_
     refine(pG) ?_
     refine(pC) ?_
     refine nM ?_
     refine bF (undef) _ _ (fun y=>rfl) rfl (fun y=>rfl) (fun y FF hA=>gf (gw bl B a3 [] 0 (ab.gO sy) hl hB omg omg omg) V.fb rfl (.cons ar .nil) (by rintro _ _ ⟨rfl,rfl⟩;exact mg (ab.vU hs omg omg hx) PE.end_ (aS (.cons ar .nil) (by exact Bo (M:=FF) (F:=F)) (fun w0 h hh=>cQ hh)))) ?_
     refine(Z6) ?_
     refine(Z6) ?_
     refine(Qi) ?_
     intro y hA
     exact(dI.fact (hA 11 (by exact Nat.le_of_ble_eq_true rfl)) (q:=fun _=>False) rfl).elim
    ·refine(Qa) ?_
     obtain⟨hk1,hk2,hk3⟩:=ab.wm (s:=sy) omg omg
     have hsh:=ab.mb (x:=2+sy%2) (n:=ab.gO sy) omg omg omg rfl
     have hnb:=ag.aX B a3 (ab.gO sy)
     have hnc:=ag.iQ (show ab.gO sy≤24 by omega)
     rw[hk1]
     refine wN [pz 0 [] [3],pz 1 [0] [],pz 3 [1] [],pz 0 [] [4],pz 15 [2,3] [],pz 31 [4] [],pz 0 [] [0],pz 64 [6] [],pz 192 [7] [],pz 448 [8] [],pz 0 [] [4],pz 1984 [9,10] [],pz 4095 [5,11] [],pz 8191 [12] []] [⟨fun y=>ai b 223 [.pointer (soz bl),I6 sz,I6 mo,.slice po no co,.bool s.ended,I6 0,I6 s.kind,I6 (s.left:Int),.bool s.last,li,(.pointer (soz dd)),I6 (s.ax:Int),I6 (s.cm:Int)],none,none,[9]⟩,⟨fun y=>HC dd ds,none,none,[]⟩,⟨fun y=>LW bl B a3 [] 0,none,some 11,[]⟩,⟨fun y=>LW bl B (a3+(ab.gO sy)) [] 0,some 11,none,[]⟩] F V.mixed ?_
     refine nM ?_
     refine(Vz) ?_
     refine(Qv) ?_
     refine nM ?_
     refine(Q78) ?_
     refine(Qv) ?_
     refine nM ?_
     refine nN ?_
     refine(pG) ?_
     refine(pC) ?_
     refine nM ?_
     refine nE (fun y FF hA=>aO (Post:=[LW bl B (a3+(ab.gO sy)) [] 0]) (fQ bl B a3 [] 0 (ab.gO sy) hl hB omg omg) V.fb rfl (an .nil) (fun v G h=>by rcases h with⟨rfl,rfl⟩;exact⟨rfl,.refl _⟩)) ?_
     refine(Qv) ?_
     refine nA ?_
     refine(Qi) ?_
     intro y hA
     clear hA
     refine bJ<|(Hx) ?_
     refine bA (M:=ai b 223 [.pointer (soz bl),I6 sz,I6 mo,.slice po no co,.bool s.ended,I6 0,I6 s.kind,I6 (s.left:Int),.bool s.last,li,(.pointer (soz dd)),I6 (s.ax:Int),I6 (s.cm:Int)]::HC dd ds::LW bl B (a3+(ab.gO sy)) [] 0::F) (fun _ _ h=>h)<|(Qa) ?_
     exact lx (x:=(1+(2+sy%2)*2^ab.gO sy+ag.aG B a3 (ab.gO sy),a3+ab.gO sy)) (ab.Eb hs omg omg hx) (aw rfl) ⟨rfl,rfl⟩ (sub (dV .nil) aj)
  ·refine(Q3) ?_
   refine oV (bC (dD rfl rfl) hq)<|(EF) ?_
   rintro _ _ ⟨rfl,rfl⟩
   refine(dK ?_)
   exact ef (ab.xy hs omg) (PE.no dec) (aS (an .nil) dC (fun w0 h hh=>cQ hh))

def D0(b bl:Nat)(sz mo:Int)(li di:Value)(s:ab.St)(B:List Int)(hl:B.length<500000000)(hB:ag.aq B)(ha:s.at_≤8*B.length):aA Tryz.prog 180 [.pointer (soz b)] [MS b bl sz mo li di s,LW bl B s.at_ [] 0] (iP (ab.dk B s) (fun s2 v G=>v=.tuple #[]∧G=[MM b bl sz mo B s2]) [MX b bl sz mo]):=by
 refine ao [(0,_)] Tryz.func180 rfl Tryz.ntmps180 rfl rfl ?_
 intro w0 F
 refine(r1) ?_
 rintro⟨po,co⟩ _
 dsimp only
 have hn1:=ag.aX B (ab.cT (s.at_+3)) 16
 have hn2:=ag.aX B ((ab.cT (s.at_+3))+16) 16
 have hal:ab.cT (s.at_+3)=(s.at_+3+7)/8*8:=ab.w7 _
 rcases(Nat.lt_or_ge (8*B.length) (s.at_+1)) with hx0|hx0
 ·refine(l6)<|(s8) ?_
  refine dY (gw bl B s.at_ [] 0 1 hl hB omg omg omg) V.fb rfl (.cons aL .nil) ?_
  rintro _ _ ⟨rfl,rfl⟩
  refine(dK ?_)
  exact ef (ab.zQ omg) PE.end_ (aS (.cons ar .nil) dC (fun w0 h hh=>cQ hh))
 ·refine(l6)<|(s8) ?_
  refine oC (fQ bl B s.at_ [] 0 1 hl hB omg omg) V.fb rfl (.cons aL .nil) rfl<|(Qc)<|(zE)<|(Q9) ?_
  rcases(Nat.lt_or_ge (8*B.length) (s.at_+3)) with hx1|hx1
  ·refine(Qf) ?_
   refine oV (aB V.hI rfl cX rfl)<|dY (gw bl B (s.at_+1) [] 0 2 hl hB omg omg omg) V.fb rfl (an .nil) ?_
   rintro _ _ ⟨rfl,rfl⟩
   refine(dK ?_)
   exact ef (ab.zQ omg) PE.end_ (aS (.cons ar .nil) dC (fun w0 h hh=>cQ hh))
  ·refine(Qf) ?_
   refine oV (aB V.hI rfl cX rfl)<|oC (fQ bl B (s.at_+1) [] 0 2 hl hB omg omg) V.fb rfl (an .nil) rfl<|(Q9) ?_
   refine cC (ew V.s3 rfl rfl rfl (by exact qn) (by exact Nat.le_of_ble_eq_true rfl) rfl)<|(Qd)<|(QW)<|(Qn) ?_
   refine av rfl (fun h26=>?_) (fun h26=>?_)
   ·refine(Qb) ?_
    refine oV (aB V.hI rfl cX rfl)<|oC (O0 bl B (s.at_+3) [] 0 hl omg) V.acg rfl (an .nil) rfl<|(Q9) ?_
    rcases(ab.Xr B.length (ab.cT (s.at_+3))) with hx|⟨hx2,hx⟩|hx
    ·refine(Qa) ?_
     have hk0:(ag.aG B (s.at_+1) 2)=0:=omg
     refine wN [pz 0 [] [0],pz 1 [0] [],pz 3 [1] [],pz 7 [2] [],pz 15 [3] [],pz 0 [] [0],pz 32 [5] [],pz 96 [6] [],pz 224 [7] [],pz 511 [8] [],pz 1023 [4] [],pz 2047 [9] []] [⟨fun y=>LW bl B (ab.cT (s.at_+3)) [] 0,none,none,[4]⟩,⟨fun y=>ai b 223 [.pointer (soz bl),I6 sz,I6 mo,.slice po s.out.length co,.bool s.ended,I6 0,I6 (ag.aG B (s.at_+1) 2),I6 (s.left:Int),.bool (decide (ag.aG B s.at_ 1=1)),li,di,I6 (s.ax:Int),I6 (s.cm:Int)],none,none,[3,4,8]⟩,⟨fun y=>Row U5 po s.out.length co s.out,none,none,[]⟩] F V.mixed ?_
     refine nM ?_
     refine nN ?_
     refine(pG) ?_
     refine(pC) ?_
     refine bF (undef) _ _ (fun y=>rfl) rfl (fun y=>rfl) (fun y FF hA=>gf (gw bl B (ab.cT (s.at_+3)) [] 0 16 hl hB omg omg omg) V.fb rfl (an .nil) (by rintro _ _ ⟨rfl,rfl⟩;exact mg (ab.wG hx1 hk0 omg) PE.end_ (aS (.cons ar .nil) (by exact Bo (M:=FF) (F:=F)) (fun w0 h hh=>cQ hh)))) ?_
     refine nM ?_
     refine nN ?_
     refine(pG) ?_
     refine(pC) ?_
     refine(UN) ?_
     refine(UN) ?_
     refine(UN) ?_
     refine(Qi) ?_
     intro y hA
     exact(dI.fact (hA 4 (by exact Nat.le_of_ble_eq_true rfl)) (q:=fun _=>False) rfl).elim
    ·refine(Qa) ?_
     have hk0:(ag.aG B (s.at_+1) 2)=0:=omg
     refine wN [pz 0 [] [0],pz 1 [0] [],pz 3 [1] [],pz 7 [2] [],pz 15 [3] [],pz 0 [] [0],pz 32 [5] [],pz 96 [6] [],pz 224 [7] [],pz 511 [8] [],pz 1023 [4] [],pz 2047 [9] []] [⟨fun y=>LW bl B (ab.cT (s.at_+3)) [] 0,none,some 4,[]⟩,⟨fun y=>ai b 223 [.pointer (soz bl),I6 sz,I6 mo,.slice po s.out.length co,.bool s.ended,I6 0,I6 (ag.aG B (s.at_+1) 2),I6 (s.left:Int),.bool (decide (ag.aG B s.at_ 1=1)),li,di,I6 (s.ax:Int),I6 (s.cm:Int)],none,none,[3,8,9]⟩,⟨fun y=>Row U5 po s.out.length co s.out,none,none,[]⟩,⟨fun y=>LW bl B ((ab.cT (s.at_+3))+16) [] 0,some 4,none,[9]⟩] F V.mixed ?_
     refine nM ?_
     refine nN ?_
     refine(pG) ?_
     refine(pC) ?_
     refine(Q79) ?_
     refine nM ?_
     refine nN ?_
     refine(pG) ?_
     refine(pC) ?_
     refine bF (undef) _ _ (fun y=>rfl) rfl (fun y=>rfl) (fun y FF hA=>gf (gw bl B ((ab.cT (s.at_+3))+16) [] 0 16 hl hB omg omg omg) V.fb rfl (.cons ar .nil) (by rintro _ _ ⟨rfl,rfl⟩;exact mg (ab.wG hx1 hk0 omg) PE.end_ (aS (.cons ar .nil) (by exact Bo (M:=FF) (F:=F)) (fun w0 h hh=>cQ hh)))) ?_
     refine(ZI) ?_
     refine(ZI) ?_
     refine(Qi) ?_
     intro y hA
     exact(dI.fact (hA 9 (by exact Nat.le_of_ble_eq_true rfl)) (q:=fun _=>False) rfl).elim
    ·refine(Qa) ?_
     have hk0:(ag.aG B (s.at_+1) 2)=0:=omg
     refine wN [pz 0 [] [0],pz 1 [0] [],pz 3 [1] [],pz 7 [2] [],pz 15 [3] [],pz 0 [] [0],pz 32 [5] [],pz 96 [6] [],pz 224 [7] [],pz 511 [8] [],pz 1023 [4] [],pz 2047 [9] []] [⟨fun y=>LW bl B (ab.cT (s.at_+3)) [] 0,none,some 4,[]⟩,⟨fun y=>ai b 223 [.pointer (soz bl),I6 sz,I6 mo,.slice po s.out.length co,.bool s.ended,I6 0,I6 (ag.aG B (s.at_+1) 2),I6 (s.left:Int),.bool (decide (ag.aG B s.at_ 1=1)),li,di,I6 (s.ax:Int),I6 (s.cm:Int)],none,none,[3,8]⟩,⟨fun y=>Row U5 po s.out.length co s.out,none,none,[]⟩,⟨fun y=>LW bl B ((ab.cT (s.at_+3))+16) [] 0,some 4,some 9,[]⟩,⟨fun y=>LW bl B ((ab.cT (s.at_+3))+32) [] 0,some 9,none,[]⟩] F V.mixed ?_
     refine nM ?_
     refine nN ?_
     refine(pG) ?_
     refine(pC) ?_
     refine(Q79) ?_
     refine nM ?_
     refine nN ?_
     refine(pG) ?_
     refine(pC) ?_
     refine nE (fun y FF hA=>aO (Post:=[LW bl B ((ab.cT (s.at_+3))+32) [] 0]) (fQ bl B ((ab.cT (s.at_+3))+16) [] 0 16 hl hB omg omg) V.fb rfl (an .nil) (fun v G h=>by rcases h with⟨rfl,rfl⟩;exact⟨rfl,.refl _⟩)) ?_
     iterate 2 refine nA ?_
     refine(Qi) ?_
     intro y hA
     clear hA
     refine bJ<|bW _ (.cons (d:=0) rfl (.cons (d:=2) rfl (.cons (d:=3) rfl (.nil _))))<|bA (M:=ai b 223 [.pointer (soz bl),I6 sz,I6 mo,.slice po s.out.length co,.bool s.ended,I6 0,I6 (ag.aG B (s.at_+1) 2),I6 (s.left:Int),.bool (decide (ag.aG B s.at_ 1=1)),li,di,I6 (s.ax:Int),I6 (s.cm:Int)]::Row U5 po s.out.length co s.out::LW bl B ((ab.cT (s.at_+3))+32) [] 0::F) (fun _ _ h=>h) ?_
     rcases(Classical.em ((ag.aG B (ab.cT (s.at_+3)) 16)=65535-(ag.aG B ((ab.cT (s.at_+3))+16) 16))) with hm|hm
     ·refine(Q4)<|(Zm) ?_
      refine oV (bQ (bG rfl rfl) ((ab.M9 hn1 hn2).2 hm))<|(Hs)<|(Qd)<|(m9)<|(Q9) ?_
      rw[hk0,show(ag.aG B (ab.cT (s.at_+3)) 16)=((((ag.aG B (ab.cT (s.at_+3)) 16)).toNat:Nat):Int) from(Int.toNat_of_nonneg hn1.1).symm]
      exact iH (x:= {s with at_:=ab.cT (s.at_+3)+32,kind:=0,left:=(ag.aG B (ab.cT (s.at_+3)) 16).toNat,last:=(decide (ag.aG B s.at_ 1=1))}) (ab.th hx1 hk0 omg hm) fI ⟨rfl,rfl⟩ ((aS (aJ .nil) .refl (fun w0 h hh=>dL (s:= {s with at_:=ab.cT (s.at_+3)+32,kind:=0,left:=(ag.aG B (ab.cT (s.at_+3)) 16).toNat,last:=(decide (ag.aG B s.at_ 1=1))}) rfl hh)).trans (aS (aJ .nil) aj (fun w0 h hh=>o9 (s:= {s with at_:=ab.cT (s.at_+3)+32,kind:=0,left:=(ag.aG B (ab.cT (s.at_+3)) 16).toNat,last:=(decide (ag.aG B s.at_ 1=1))}) (Int.le_refl _) hh)))
     ·refine(Q4)<|(Zm) ?_
      refine oV (bC (bG rfl rfl) (fun h=>hm ((ab.M9 hn1 hn2).1 h)))<|(EF) ?_
      rintro _ _ ⟨rfl,rfl⟩
      refine(dK (fC ?_))
      exact ef (ab.Aq hx1 hk0 omg hm) (PE.no dec) (aS (an .nil) dC (fun w0 h hh=>cQ hh))
   ·refine(Qf) ?_
    refine av rfl (fun h52=>?_) (fun h52=>?_)
    ·refine(Q5) ?_
     refine aQ (Pj b bl sz mo po s.out.length co li di {s with kind:=(ag.aG B (s.at_+1) 2),last:=(decide (ag.aG B s.at_ 1=1))}) V.acX rfl (.cons ar .nil) rfl ?_
     rintro _ _ ⟨lb,db,rfl,rfl⟩
     refine(Q9) ?_
     have hk1:(ag.aG B (s.at_+1) 2)=1:=omg
     rw[hk1]
     exact iH (x:= {s with at_:=s.at_+3,kind:=1,last:=(decide (ag.aG B s.at_ 1=1)),lits:=ab.dO,du:=ab.jT}) (ab.zN hx1 hk1) fI ⟨rfl,rfl⟩ ((aS (an (.cons cB .nil)) .refl (fun w0 h hh=>dL (s:= {s with at_:=s.at_+3,kind:=1,last:=(decide (ag.aG B s.at_ 1=1)),lits:=ab.dO,du:=ab.jT}) rfl hh)).trans (aS (an (.cons aL (.cons dJ (.cons dJ .nil)))) aj (fun w0 h hh=>nh (s:= {s with at_:=s.at_+3,kind:=1,last:=(decide (ag.aG B s.at_ 1=1)),lits:=ab.dO,du:=ab.jT}) hh)))
    ·refine(Qf) ?_
     refine av rfl (fun h56=>?_) (fun h56=>?_)
     ·rcases(ab.eO (ab.told B (s.at_+3))) with⟨e,ht⟩|⟨⟨x3,ll,dl⟩,ht⟩
      ·refine(Q5) ?_
       refine dY ((GI b bl sz mo po s.out.length co li di {s with kind:=(ag.aG B (s.at_+1) 2),last:=(decide (ag.aG B s.at_ 1=1))} B (s.at_+3) hl hB omg).err ht) V.UX rfl (.cons ar (an .nil)) ?_
       rintro _ _ ⟨hp,rfl⟩
       refine(fC ?_)
       exact ef (ab.BX hx1 omg ht) hp (sub (an .nil) bg)
      ·refine(Q5) ?_
       refine aQ ((GI b bl sz mo po s.out.length co li di {s with kind:=(ag.aG B (s.at_+1) 2),last:=(decide (ag.aG B s.at_ 1=1))} B (s.at_+3) hl hB omg).ok ht) V.UX rfl (.cons ar (an .nil)) rfl ?_
       rintro _ _ ⟨lb,db,rfl,rfl⟩
       refine(Q9) ?_
       have hk2:(ag.aG B (s.at_+1) 2)=2:=omg
       rw[hk2]
       exact iH (x:= {s with at_:=x3,kind:=2,last:=(decide (ag.aG B s.at_ 1=1)),lits:=ll,du:=dl}) (ab.xa hx1 hk2 ht) fI ⟨rfl,rfl⟩ ((aS (an (.cons cB .nil)) .refl (fun w0 h hh=>dL (s:= {s with at_:=x3,kind:=2,last:=(decide (ag.aG B s.at_ 1=1)),lits:=ll,du:=dl}) rfl hh)).trans (aS (jm .nil) aj (fun w0 h hh=>nh (s:= {s with at_:=x3,kind:=2,last:=(decide (ag.aG B s.at_ 1=1)),lits:=ll,du:=dl}) hh)))
     ·refine(QF)<|(EF) ?_
      rintro _ _ ⟨rfl,rfl⟩
      refine(fC ?_)
      exact ef (ab.Cb hx1 omg omg omg) (PE.no dec) (aS (.cons ar .nil) dC (fun w0 h hh=>cQ hh))
end Go.Proofs.YtmaiakpjgomnpaaGreat
namespace Go.Proofs.YtmaiakpjgomnpaaGreat
open Go.Sl 
attribute [local irreducible] ae.bp ae.tk ae.ord ae.bV ae.words ae.cU ab.gG ab.bX ab.cu ab.dG ab.hL ab.hD ab.hC ab.fg ab.told ab.dO ab.jH ab.rep ab.eL ab.dQ ab.sym ab.cT ag.aG ab.eW ab.dk ab.eK
def pU(b bl:Nat)(sz mo:Int)(po:Option Addr)(co:Nat)(li di:Value)(s:ab.St)(yb:Int)(hy:0≤yb∧yb<256)(hm:mo<1000000000):aA Tryz.prog 179 [.pointer (soz b),.int .u8 yb] [ai b 223 [.pointer (soz bl),I6 sz,I6 mo,.slice po s.out.length co,.bool s.ended,I6 0,I6 s.kind,I6 (s.left:Int),.bool s.last,li,di,I6 (s.ax:Int),I6 (s.cm:Int)],Row U5 po s.out.length co s.out] (iP (ab.eK mo s yb) (fun s2 v G=>v=.tuple #[]∧G=[MS b bl sz mo li di s2]) [MX b bl sz mo]):=
 aA.fold (Wd b bl sz mo li di s yb hy hm) (fun w0 h hh=>dL rfl hh)

def D2(b bl:Nat)(sz mo:Int)(l d:Nat)(s:ab.St)(B:List Int)(hl:B.length<500000000)(hB:ag.aq B)(hm:mo<1000000000)(hok:ab.Ok B mo s)(hk:0<s.kind):aA Tryz.prog 181 [.pointer (soz b)] [MS b bl sz mo (.pointer (soz l)) (.pointer (soz d)) s,LW bl B s.at_ [] 0,HC l s.lits,HC d s.du] (iP (ab.eW B mo s) (fun s2 v G=>v=.tuple #[]∧G=[MM b bl sz mo B s2]) [MX b bl sz mo]):=by
 refine ao [(0,_)] Tryz.func181 rfl Tryz.ntmps181 rfl rfl ?_
 intro w0 F
 refine(r1) ?_
 rintro⟨po,co⟩ _
 dsimp only
 obtain⟨hE1,hE2,hz1,hz2⟩:=hok.Fp hk
 have ha:=hok.at_
 have hll:=ab.qR hE1
 have hro:=hok.room
 rcases(ab.qL (B:=B) (ls:=s.lits) (a:=s.at_) hE1 hz1) with⟨e,hs⟩|⟨sy,a1,hs,hy0,hy1,ha0,ha1⟩
 ·refine rT TT 1 rfl ?_
  refine wN [pz 0 [] [0],pz 1 [0] [],pz 3 [1] [],pz 7 [2] [],pz 0 [] [0],pz 16 [4] [],pz 48 [5] [],pz 112 [6] [],pz 255 [3,7] [],pz 511 [8] []] [⟨fun y=>ai b 223 [.pointer (soz bl),I6 sz,I6 mo,.slice po s.out.length co,.bool s.ended,I6 0,I6 s.kind,I6 (s.left:Int),.bool s.last,(.pointer (soz l)),(.pointer (soz d)),I6 (s.ax:Int),I6 (s.cm:Int)],none,none,[3,7,8]⟩,⟨fun y=>Row U5 po s.out.length co s.out,none,none,[]⟩,⟨fun y=>LW bl B s.at_ [] 0,none,none,[8]⟩,⟨fun y=>HC l s.lits,none,none,[8]⟩,⟨fun y=>HC d s.du,none,none,[]⟩] F V.mixed ?_
  refine nM ?_
  refine nN ?_
  refine nG V.BH ?_
  refine(Mp) ?_
  refine nM ?_
  refine nN ?_
  refine(pG) ?_
  refine(pC) ?_
  refine bF (undef) _ _ (fun y=>rfl) rfl (fun y=>rfl) (fun y FF hA=>gf ((pJ l s.lits bl B s.at_ [] 0 hE1 hl hB ha).err hs) V.sZ rfl (.cons aL (.cons ar .nil)) (by rintro _ _ ⟨hp,rfl⟩;exact mg (ab.tG hs) hp (aS (an .nil) (by exact zg (M:=FF) (F:=F)) (fun w0 h hh=>cQ hh)))) ?_
  refine(Q77) ?_
  refine(Qi) ?_
  intro y hA
  exact(dI.fact (hA 8 (by exact Nat.le_of_ble_eq_true rfl)) (q:=fun _=>False) rfl).elim
 ·refine rT TT 1 rfl ?_
  refine wN [pz 0 [] [0],pz 1 [0] [],pz 3 [1] [],pz 7 [2] [],pz 0 [] [0],pz 16 [4] [],pz 48 [5] [],pz 112 [6] [],pz 255 [3,7] [],pz 511 [8] []] [⟨fun y=>ai b 223 [.pointer (soz bl),I6 sz,I6 mo,.slice po s.out.length co,.bool s.ended,I6 0,I6 s.kind,I6 (s.left:Int),.bool s.last,(.pointer (soz l)),(.pointer (soz d)),I6 (s.ax:Int),I6 (s.cm:Int)],none,none,[3,7]⟩,⟨fun y=>Row U5 po s.out.length co s.out,none,none,[]⟩,⟨fun y=>LW bl B s.at_ [] 0,none,some 8,[]⟩,⟨fun y=>HC l s.lits,none,some 8,[]⟩,⟨fun y=>HC d s.du,none,none,[]⟩,⟨fun y=>HC l s.lits,some 8,none,[]⟩,⟨fun y=>LW bl B a1 [] 0,some 8,none,[]⟩] F V.mixed ?_
  refine nM ?_
  refine nN ?_
  refine nG V.BH ?_
  refine(Mp) ?_
  refine nM ?_
  refine nN ?_
  refine(pG) ?_
  refine(pC) ?_
  refine nE (fun y FF hA=>aO (Post:=[HC l s.lits,LW bl B a1 [] 0]) ((pJ l s.lits bl B s.at_ [] 0 hE1 hl hB ha).ok hs) V.sZ rfl (.cons ar (an .nil)) (fun v G h=>by rcases h with⟨rfl,rfl⟩;exact⟨rfl,.refl _⟩)) ?_
  refine nA ?_
  refine(Qi) ?_
  intro y hA
  clear hA
  refine bJ<|bW _ (.cons (d:=0) rfl (.cons (d:=2) rfl (.nil _)))<|bA (M:=ai b 223 [.pointer (soz bl),I6 sz,I6 mo,.slice po s.out.length co,.bool s.ended,I6 0,I6 s.kind,I6 (s.left:Int),.bool s.last,(.pointer (soz l)),(.pointer (soz d)),I6 (s.ax:Int),I6 (s.cm:Int)]::Row U5 po s.out.length co s.out::HC d s.du::HC l s.lits::LW bl B a1 [] 0::F) (fun _ _ h=>h)<|(pB) ?_
  refine av rfl (fun h36=>?_) (fun h36=>?_)
  ·rcases(ab.eO (ab.eK mo {s with at_:=a1} sy)) with⟨e,hp⟩|⟨s2,hp⟩
   ·refine(Q3)<|(sb) ?_
    refine dY ((pU b bl sz mo po co (.pointer (soz l)) (.pointer (soz d)) {s with at_:=a1} sy omg hm).err hp) V.yp rfl (aJ .nil) ?_
    rintro _ _ ⟨hpe,rfl⟩
    refine(fC ?_)
    exact ef ((ab.mc hs omg).trans hp) hpe (sub (an .nil) iW)
   ·refine(Q3)<|(sb) ?_
    refine oC ((pU b bl sz mo po co (.pointer (soz l)) (.pointer (soz d)) {s with at_:=a1} sy omg hm).ok hp) V.yp rfl (aJ .nil) rfl<|(Q9) ?_
    obtain⟨_,rfl⟩:=ab.nj hp
    exact iH ((ab.mc hs omg).trans hp) fI ⟨rfl,rfl⟩ (aS (an (.cons aL (.cons ar (.cons dJ .nil)))) aj (fun w0 h hh=>nh (s:= {s with at_:=a1,out:=s.out++[sy]}) hh))
  ·refine(Qr) ?_
   refine av rfl (fun h43=>?_) (fun h43=>?_)
   ·refine(Q5) ?_
    refine oC (Ek b bl sz mo po s.out.length co (.pointer (soz l)) (.pointer (soz d)) s) V.WA rfl (an .nil) rfl<|(Q9) ?_
    exact iH (x:= {s with at_:=a1,kind:= -1,ended:=s.last}) (ab.ou hs omg) fI ⟨rfl,rfl⟩ ((aS (aJ .nil) .refl (fun w0 h hh=>dL (s:= {s with at_:=a1,kind:= -1,ended:=s.last}) rfl hh)).trans (aS (an (.cons aL (.cons ar (.cons dJ .nil)))) aj (fun w0 h hh=>nh (s:= {s with at_:=a1,kind:= -1,ended:=s.last}) hh)))
   ·rcases(ab.Il (B:=B) (s:=sy-257) (a:=a1) omg ha1) with⟨e,hn⟩|⟨n,a2,hn,hn0,hn1,hn2,hn3⟩
    ·refine(EE)<|(Q7b) ?_
     refine dY ((AZ b bl sz mo po s.out.length co (.pointer (soz l)) (.pointer (soz d)) s B a1 (sy-257) omg hl hB ha1).err hn) V.UA rfl (an (.cons cB .nil)) ?_
     rintro _ _ ⟨hpe,rfl⟩
     refine(dK (fC ?_))
     exact ef (ab.rI hs omg hn) hpe (sub (an .nil) iW)
    ·refine(EE)<|(Q7b) ?_
     refine oC ((AZ b bl sz mo po s.out.length co (.pointer (soz l)) (.pointer (soz d)) s B a1 (sy-257) omg hl hB ha1).ok hn) V.UA rfl (an (.cons cB .nil)) rfl<|(Q9)<|(m9)<|(Q9) ?_
     rcases(ab.Es (B:=B) (ds:=s.du) (a:=a2) hE2 hz2) with⟨e,hf⟩|⟨f,a3,hf,hf0,hf1,hf2,hf3⟩
     ·refine(Q4) ?_
      refine dY ((HE b bl sz mo po s.out.length co (.pointer (soz l)) d {s with ax:=n} B s.du a2 hE2 hz2 hl hB hn3).err hf) V.Vy rfl (an (.cons aL (.cons dJ .nil))) ?_
      rintro _ _ ⟨hpe,rfl⟩
      refine(dK (fC ?_))
      exact ef (ab.o0 hs omg hn hf) hpe (sub (an .nil) dC)
     ·refine(Q4) ?_
      refine oC ((HE b bl sz mo po s.out.length co (.pointer (soz l)) d {s with ax:=n} B s.du a2 hE2 hz2 hl hB hn3).ok hf) V.Vy rfl (an (.cons aL (.cons dJ .nil))) rfl<|(Q9)<|(m9)<|(Q9) ?_
      rcases(Classical.em (f≤s.out.length)) with hfo|hfo
      ·refine wN [pz 0 [] [0],pz 1 [0] [],pz 3 [1] [],pz 7 [2] [],pz 0 [] [0],pz 16 [4] [],pz 48 [5] [],pz 112 [6] [],pz 240 [7] [],pz 511 [3,8] [],pz 1023 [9] []] [⟨fun y=>ai b 223 [.pointer (soz bl),I6 sz,I6 mo,.slice po s.out.length co,.bool s.ended,I6 0,I6 s.kind,I6 (s.left:Int),.bool s.last,(.pointer (soz l)),(.pointer (soz d)),I6 (n:Int),I6 (f:Int)],none,none,[3,7]⟩,⟨fun y=>HC d s.du,none,none,[]⟩,⟨fun y=>LW bl B a3 [] 0,none,none,[]⟩,⟨fun y=>Row U5 po s.out.length co s.out,none,none,[]⟩,⟨fun y=>HC l s.lits,none,none,[]⟩] F V.mixed ?_
       refine nM ?_
       refine nN ?_
       refine nG V.tU ?_
       refine(Qz) ?_
       refine nM ?_
       refine nN ?_
       refine nG V.kK ?_
       refine(qJ) ?_
       refine(yQ) ?_
       refine nV (fun y hA L=>bQ (il rfl rfl) omg) ?_
       refine nE (fun y FF hA=>aO (Post:=[]) (qt 4) V.mF rfl .nil (fun v G h=>by rcases h with⟨rfl,rfl⟩;exact⟨rfl,.refl _⟩)) ?_
       refine(Qi) ?_
       intro y hA
       clear hA
       show ks _ _ _ _ (ai b 223 [.pointer (soz bl),I6 sz,I6 mo,.slice po s.out.length co,.bool s.ended,I6 0,I6 s.kind,I6 (s.left:Int),.bool s.last,(.pointer (soz l)),(.pointer (soz d)),I6 (n:Int),I6 (f:Int)]::HC d s.du::LW bl B a3 [] 0::Row U5 po s.out.length co s.out::HC l s.lits::F)
       exact qY<|iH (x:= {s with at_:=a3,ax:=n,cm:=f}) (ab.ue hs omg hn hf omg) fI ⟨rfl,rfl⟩ ((aS (an (.cons aL .nil)) .refl (fun w0 h hh=>dL (s:= {s with at_:=a3,ax:=n,cm:=f}) rfl hh)).trans (aS (an (.cons ar (.cons ar (.cons dJ .nil)))) aj (fun w0 h hh=>nh (s:= {s with at_:=a3,ax:=n,cm:=f}) hh)))
      ·refine wN [pz 0 [] [0],pz 1 [0] [],pz 3 [1] [],pz 7 [2] [],pz 0 [] [0],pz 16 [4] [],pz 48 [5] [],pz 112 [6] [],pz 240 [7] [],pz 511 [3,8] [],pz 1023 [9] []] [⟨fun y=>ai b 223 [.pointer (soz bl),I6 sz,I6 mo,.slice po s.out.length co,.bool s.ended,I6 0,I6 s.kind,I6 (s.left:Int),.bool s.last,(.pointer (soz l)),(.pointer (soz d)),I6 (n:Int),I6 (f:Int)],none,none,[3,7,10]⟩,⟨fun y=>HC d s.du,none,none,[]⟩,⟨fun y=>LW bl B a3 [] 0,none,none,[]⟩,⟨fun y=>Row U5 po s.out.length co s.out,none,none,[]⟩,⟨fun y=>HC l s.lits,none,none,[]⟩] F V.mixed ?_
       refine nM ?_
       refine nN ?_
       refine nG V.tU ?_
       refine(Qz) ?_
       refine nM ?_
       refine nN ?_
       refine nG V.kK ?_
       refine(qJ) ?_
       refine(yQ) ?_
       refine nV (fun y hA L=>bC (il rfl rfl) omg) ?_
       refine bF (undef) _ _ (fun y=>rfl) rfl (fun y=>rfl) (fun y FF hA=>gf (mE 4) V.mF rfl .nil (by rintro _ _ ⟨rfl,rfl⟩;exact mg (ab.ug hs omg hn hf omg) (PE.no dec) (aS (an .nil) (by exact zg (M:=FF) (F:=F)) (fun w0 h hh=>cQ hh)))) ?_
       refine(Qi) ?_
       intro y hA
       exact(dI.fact (hA 10 (by exact Nat.le_of_ble_eq_true rfl)) (q:=fun _=>False) rfl).elim

def NP(b bl:Nat)(sz mo:Int)(s:ab.St)(B:List Int)(hl:B.length<500000000)(hB:ag.aq B)(hm:mo<1000000000)(hok:ab.Ok B mo s):aA Tryz.prog 169 [.pointer (soz b)] [MM b bl sz mo B s] (iP (ab.one B mo s) (fun s2 v G=>v=.tuple #[]∧G=[MM b bl sz mo B s2]) [MX b bl sz mo]):=by
 refine ao [(0,_)] Tryz.func169 rfl Tryz.ntmps169 rfl rfl ?_
 intro w0 F
 refine(r1) ?_
 rintro⟨li,di⟩ _
 dsimp only
 refine(r1) ?_
 rintro⟨po,co⟩ _
 dsimp only
 simp only[List.cons_append,List.nil_append]
 have ha:=hok.at_
 have hro:=hok.room
 have hcp:=hok.ax
 have hlf:=hok.left
 have hnb:=ag.aX B s.at_ 8
 refine(l6)<|(Ql)<|(Q7) ?_
 refine av rfl (fun h17=>?_) (fun h17=>?_)
 ·rcases(ab.eO (ab.eK mo s (U5.g s.out ((s.out.length:Int)-(s.cm:Int))))) with⟨e,hp⟩|⟨s2,hp⟩
  ·refine(Qa) ?_
   have hcs:0<s.ax:=omg
   have hfr:=hok.cm hcs
   have hge:U5.g s.out ((s.out.length:Int)-(s.cm:Int))=s.out.getD (s.out.length-s.cm) 0:=gE _ omg
   refine wN [pz 0 [] [0],pz 0 [] [0],pz 2 [1] [],pz 6 [2] [],pz 14 [3] [],pz 0 [] [0],pz 32 [5] [],pz 96 [6] [],pz 224 [7] [],pz 480 [8] [],pz 0 [] [0],pz 1024 [10] [],pz 3072 [11] [],pz 7168 [12] [],pz 16352 [9,13] [],pz 32766 [4,14] [],pz 65534 [15] [],pz 131071 [0,16] []] [⟨fun y=>ai b 223 [.pointer (soz bl),I6 sz,I6 mo,.slice po s.out.length co,.bool s.ended,I6 0,I6 s.kind,I6 (s.left:Int),.bool s.last,li,di,I6 (s.ax:Int),I6 (s.cm:Int)],none,none,[4,8,13,17]⟩,⟨fun y=>Row U5 po s.out.length co s.out,none,none,[15,16,17]⟩,⟨fun y=>LW bl B s.at_ [] 0,none,none,[]⟩,⟨fun y=>CD li di s,none,none,[]⟩] F V.mixed ?_
   iterate 2 refine nM ?_
   refine nN ?_
   refine nG V.kK ?_
   refine(qJ) ?_
   refine nM ?_
   refine nN ?_
   refine nG V.kK ?_
   refine(qJ) ?_
   refine(yQ) ?_
   refine nM ?_
   refine nN ?_
   refine nG V.tU ?_
   refine(Qz) ?_
   refine(vW) ?_
   refine(Ia) ?_
   refine(Ho) ?_
   refine bF (undef) _ _ (fun y=>rfl) rfl (fun y=>rfl) (fun y FF hA=>gf ((pU b bl sz mo po co li di s (U5.g s.out ((s.out.length:Int)-(s.cm:Int))) (by rw[hge];exact hok.wH.get _) hm).err hp) V.yp rfl (aJ .nil) (by rintro _ _ ⟨hpe,rfl⟩;exact mg (ab.IN hcs (by rw[←hge];exact hp)) hpe (sub (an .nil) (by exact zg (M:=FF) (F:=F))))) ?_
   refine(Qi) ?_
   intro y hA
   exact(dI.fact (hA 17 (by exact Nat.le_of_ble_eq_true rfl)) (q:=fun _=>False) rfl).elim
  ·refine(Qa) ?_
   have hcs:0<s.ax:=omg
   have hfr:=hok.cm hcs
   have hge:U5.g s.out ((s.out.length:Int)-(s.cm:Int))=s.out.getD (s.out.length-s.cm) 0:=gE _ omg
   refine wN [pz 0 [] [0],pz 0 [] [0],pz 2 [1] [],pz 6 [2] [],pz 14 [3] [],pz 0 [] [0],pz 32 [5] [],pz 96 [6] [],pz 224 [7] [],pz 480 [8] [],pz 0 [] [0],pz 1024 [10] [],pz 3072 [11] [],pz 7168 [12] [],pz 16352 [9,13] [],pz 32766 [4,14] [],pz 65534 [15] [],pz 131071 [0,16] []] [⟨fun y=>ai b 223 [.pointer (soz bl),I6 sz,I6 mo,.slice po s.out.length co,.bool s.ended,I6 0,I6 s.kind,I6 (s.left:Int),.bool s.last,li,di,I6 (s.ax:Int),I6 (s.cm:Int)],none,some 17,[4,8,13]⟩,⟨fun y=>Row U5 po s.out.length co s.out,none,some 17,[15,16]⟩,⟨fun y=>LW bl B s.at_ [] 0,none,none,[]⟩,⟨fun y=>CD li di s,none,none,[]⟩,⟨fun y=>MS b bl sz mo li di s2,some 17,none,[]⟩] F V.mixed ?_
   iterate 2 refine nM ?_
   refine nN ?_
   refine nG V.kK ?_
   refine(qJ) ?_
   refine nM ?_
   refine nN ?_
   refine nG V.kK ?_
   refine(qJ) ?_
   refine(yQ) ?_
   refine nM ?_
   refine nN ?_
   refine nG V.tU ?_
   refine(Qz) ?_
   refine(vW) ?_
   refine(Ia) ?_
   refine(Ho) ?_
   refine nE (fun y FF hA=>aO (Post:=[MS b bl sz mo li di s2]) ((pU b bl sz mo po co li di s (U5.g s.out ((s.out.length:Int)-(s.cm:Int))) (by rw[hge];exact hok.wH.get _) hm).ok hp) V.yp rfl (aJ .nil) (fun v G h=>by rcases h with⟨rfl,rfl⟩;exact⟨rfl,.refl _⟩)) ?_
   refine(Qi) ?_
   intro y hA
   clear hA
   refine bJ<|bW _ (.cons (d:=0) rfl (.nil _))<|bA (M:=LW bl B s.at_ [] 0::CD li di s::MS b bl sz mo li di s2::F) (fun _ _ h=>h) ?_
   obtain⟨hroom,rfl⟩:=ab.nj hp
   refine nD aL (fun h hh=>tM hh) ?_
   rintro⟨po2,co2⟩ _
   dsimp only
   simp only[List.cons_append,List.nil_append]
   refine(Q4)<|(Ql)<|(xl)<|(m9)<|(Q9) ?_
   rw[show(s.ax:Int)-1=((s.ax-1:Nat):Int) from by omega]
   exact iH (x:= {s with ax:=s.ax-1,out:=s.out++[(U5.g s.out ((s.out.length:Int)-(s.cm:Int)))]}) (by rw[hge];exact ab.GJ hcs hroom) fI ⟨rfl,rfl⟩ ((aS (aJ .nil) .refl (fun w0 h hh=>dL (s:= {s with ax:=s.ax-1,out:=s.out++[(U5.g s.out ((s.out.length:Int)-(s.cm:Int)))]}) (by simp) hh)).trans (aS (dV .nil) aj (fun w0 h hh=>gm (s:= {s with ax:=s.ax-1,out:=s.out++[(U5.g s.out ((s.out.length:Int)-(s.cm:Int)))]}) hh)))
 ·refine(Qb)<|(Ql)<|(Q7) ?_
  refine av rfl (fun h48=>?_) (fun h48=>?_)
  ·rcases(ab.eO (ab.dk B s)) with⟨e,hp⟩|⟨s2,hp⟩
   ·have hcs:¬0<s.ax:=omg
    have hk1:s.kind= -1:=omg
    refine(Q7c)<|(Q5) ?_
    refine dY ((D0 b bl sz mo li di s B hl hB ha).err hp) V.TB rfl (aJ .nil) ?_
    rintro _ _ ⟨hpe,rfl⟩
    refine(fC ?_)
    exact ef ((ab.kS hcs hk1).trans hp) hpe (sub (an .nil) bg)
   ·have hcs:¬0<s.ax:=omg
    have hk1:s.kind= -1:=omg
    refine(Q7c)<|(Q5) ?_
    refine oC ((D0 b bl sz mo li di s B hl hB ha).ok hp) V.TB rfl (aJ .nil) rfl<|(Q9) ?_
    exact iH ((ab.kS hcs hk1).trans hp) fI ⟨rfl,rfl⟩ (sub (an .nil) bg)
  ·refine(Qb)<|(Ql)<|(Q7) ?_
   refine av rfl (fun h56=>?_) (fun h56=>?_)
   ·rcases(ab.eO (ab.eW B mo s)) with⟨e,hp⟩|⟨s2,hp⟩
    ·have hcs:¬0<s.ax:=omg
     have hk1:¬s.kind= -1:=omg
     have hk0:s.kind≠0:=omg
     have hkp:0<s.kind:=by have:=hok.kind;omega
     refine nD cB (fun h hh=>Ea hkp hh) ?_
     rintro⟨l,d⟩ ⟨h1,h2⟩
     dsimp only at h1 h2
     subst h1
     subst h2
     simp only[List.cons_append,List.nil_append]
     refine(Z3)<|(Q5) ?_
     refine dY ((D2 b bl sz mo l d s B hl hB hm hok hkp).err hp) V.U2 rfl (an (.cons aL (.cons dJ (.cons dJ .nil)))) ?_
     rintro _ _ ⟨hpe,rfl⟩
     refine(fC ?_)
     exact ef ((ab.jF hcs hk1 hk0).trans hp) hpe (sub (an .nil) aj)
    ·have hcs:¬0<s.ax:=omg
     have hk1:¬s.kind= -1:=omg
     have hk0:s.kind≠0:=omg
     have hkp:0<s.kind:=by have:=hok.kind;omega
     refine nD cB (fun h hh=>Ea hkp hh) ?_
     rintro⟨l,d⟩ ⟨h1,h2⟩
     dsimp only at h1 h2
     subst h1
     subst h2
     simp only[List.cons_append,List.nil_append]
     refine(Z3)<|(Q5) ?_
     refine oC ((D2 b bl sz mo l d s B hl hB hm hok hkp).ok hp) V.U2 rfl (an (.cons aL (.cons dJ (.cons dJ .nil)))) rfl<|(Q9) ?_
     exact iH ((ab.jF hcs hk1 hk0).trans hp) fI ⟨rfl,rfl⟩ (sub (an .nil) aj)
   ·refine(Qb)<|(Ql)<|(Q7) ?_
    refine av rfl (fun h64=>?_) (fun h64=>?_)
    ·have hcs:¬0<s.ax:=omg
     have hk1:¬s.kind= -1:=omg
     have hk0:s.kind=0:=omg
     have hl0:s.left=0:=omg
     refine(Q5) ?_
     refine oC (Ek b bl sz mo po s.out.length co li di s) V.WA rfl (an .nil) rfl<|(Q9) ?_
     exact iH (x:= {s with kind:= -1,ended:=s.last}) (ab.qF hcs hk1 hk0 hl0) fI ⟨rfl,rfl⟩ ((aS (aJ .nil) .refl (fun w0 h hh=>dL (s:= {s with kind:= -1,ended:=s.last}) rfl hh)).trans (aS (aJ .nil) bg (fun w0 h hh=>o9 (s:= {s with kind:= -1,ended:=s.last}) (by show(-1:Int)≤0;decide) hh)))
    ·rcases(ab.TY B s.at_ mo {s with at_:=s.at_+8} (ag.aG B s.at_ 8)) with hx|⟨hx,e,hp⟩|⟨hx,s2,hp⟩
     ·refine(Qa) ?_
      have hcs:¬0<s.ax:=omg
      have hk1:¬s.kind= -1:=omg
      have hk0:s.kind=0:=omg
      have hl0:¬s.left=0:=omg
      refine(Qb)<|(s8) ?_
      refine dY (gw bl B s.at_ [] 0 8 hl hB omg omg omg) V.fb rfl (.cons aL .nil) ?_
      rintro _ _ ⟨rfl,rfl⟩
      refine(dK (fC ?_))
      exact ef (ab.sC hcs hk1 hk0 hl0 hx) PE.end_ (aS (.cons ar .nil) iW (fun w0 h hh=>cQ hh))
     ·refine(Qa) ?_
      have hcs:¬0<s.ax:=omg
      have hk1:¬s.kind= -1:=omg
      have hk0:s.kind=0:=omg
      have hl0:¬s.left=0:=omg
      refine(Qb)<|(s8)<|(Q7e)<|(sb) ?_
      refine dY ((pU b bl sz mo po co li di s (ag.aG B s.at_ 8) omg hm).err (ab.Sa hp)) V.yp rfl (.cons ar (.cons ar .nil)) ?_
      rintro _ _ ⟨hpe,rfl⟩
      refine(dK (fC ?_))
      exact ef (ab.one_le hcs hk1 hk0 hl0 hx hp) hpe (sub (an .nil) dC)
     ·refine(Qa) ?_
      have hcs:¬0<s.ax:=omg
      have hk1:¬s.kind= -1:=omg
      have hk0:s.kind=0:=omg
      have hl0:¬s.left=0:=omg
      refine(Qb)<|(s8)<|(Q7e)<|(sb) ?_
      refine oC ((pU b bl sz mo po co li di {s with at_:=s.at_+8} (ag.aG B s.at_ 8) omg hm).ok hp) V.yp rfl (.cons ar (.cons ar .nil)) rfl<|(Q9) ?_
      obtain⟨hroom,rfl⟩:=ab.nj hp
      refine nD dJ (fun h hh=>tM hh) ?_
      rintro⟨po2,co2⟩ _
      dsimp only
      simp only[List.cons_append,List.nil_append]
      refine(Q4)<|(Ql)<|(xl)<|(m9)<|(Q9) ?_
      rw[show(s.left:Int)-1=((s.left-1:Nat):Int) from by omega]
      exact iH (x:= {s with at_:=s.at_+8,left:=s.left-1,out:=s.out++[(ag.aG B s.at_ 8)]}) (ab.BT hcs hk1 hk0 hl0 hx hroom) fI ⟨rfl,rfl⟩ ((aS (aJ .nil) .refl (fun w0 h hh=>dL (s:= {s with at_:=s.at_+8,left:=s.left-1,out:=s.out++[(ag.aG B s.at_ 8)]}) (by simp) hh)).trans (aS (aJ .nil) bg (fun w0 h hh=>o9 (s:= {s with at_:=s.at_+8,left:=s.left-1,out:=s.out++[(ag.aG B s.at_ 8)]}) (by show s.kind≤0;omega) hh)))
end Go.Proofs.YtmaiakpjgomnpaaGreat
namespace Go.Sl
section
variable {C:Ctx} {E:Env} {L:List ad} {ty:TypeId}
def td (P:Program) (t:TypeId):Bool:=match P.underlying t with|some (.interface _)=>true|_=>false
def AM{t T:TypeId}{is:Array (String×TypeId)}{u:Value}(ht:C.P.underlying t=some (.interface is))(d:Nat)(w:World):(Op.equalIn (d+1) t (.iface T u) .nilIface).run C.P w=.ok false w:=by
  simp[Op.equalIn,run_underlying ht]
def AL{t:TypeId}{is:Array (String×TypeId)}(ht:C.P.underlying t=some (.interface is))(d:Nat)(w:World):(Op.equalIn (d+1) t .nilIface .nilIface).run C.P w=.ok true w:=by
  simp[Op.equalIn,run_underlying ht]
def vF{x y:Operand}{t t' T:TypeId}{u:Value}(ht:td C.P t=true)(hx:au E x=some (.iface T u))(hy:au E y=some .nilIface):cx C (.binOp .eql t x y t') ty E L (.bool false) L:=
  dM fun d pos aft g a w ha=>by
    unfold td at ht
    split at ht<;>try simp at ht
    rename_i is hds
    rw[kl d pos aft g (ha.eval hx) (ha.eval hy) (by simp[eqGuard])]
    have h:=AM hds (T:=T) (u:=u) 9999 w
    simp only[binOp,Op.equal,Op.maxDepth,Sem.run_bind,h,Result.andThen_ok,Sem.run_pure]
def LG{x:Operand}{t t':TypeId}(ht:td C.P t=true)(hx:au E x=some .nilIface):cx C (.binOp .eql t x (.const .nilIface) t') ty E L (.bool true) L:=
  dM fun d pos aft g a w ha=>by
    unfold td at ht
    split at ht<;>try simp at ht
    rename_i is hds
    rw[kl d pos aft g (ha.eval hx) (ha.eval (x:=.const .nilIface) rfl) (by simp[eqGuard])]
    have h:=AL hds 9999 w
    simp only[binOp,Op.equal,Op.maxDepth,Sem.run_bind,h,Result.andThen_ok,Sem.run_pure]
def yn{x:Operand}{xT T:TypeId}{u:Value}(hc:oc C.P T=true)(hx:au E x=some (.iface T u)):cx C (.typeAssert x xT T true) ty E L (.tuple #[u,.bool true]) L:=
  dM fun d pos aft g a w ha=>by
    unfold oc at hc
    split at hc<;>try simp at hc
    rename_i ds hne hds
    simp only[execOp,ha.eval hx,Instr.typeAssert,Sem.run_bind,run_underlying hds,Result.andThen_ok]
    cases ds<;>first|(exact absurd rfl (hne _))|simp[Sem.run_pure]
def xH{x:Operand}{xT T t:TypeId}{u z:Value}(hc:oc C.P T=true)(hz:(C.P.info? T).bind (·.zero)=some z)(hn:t≠T)(hx:au E x=some (.iface t u)):cx C (.typeAssert x xT T true) ty E L (.tuple #[z,.bool false]) L:=
  dM fun d pos aft g a w ha=>by
    unfold oc at hc
    split at hc<;>try simp at hc
    rename_i ds hne hds
    obtain⟨i,hi,hz⟩:∃i,C.P.info? T=some i∧i.zero=some z:=by
      cases h:C.P.info? T with
      |none=>rw[h] at hz;cases hz
      |some i=>rw[h] at hz;exact⟨i,rfl,hz⟩
    have hzv:(zeroValue T).run C.P w=.ok z w:=by simp only[zeroValue,typeInfo,Sem.run_bind,run_program,Result.andThen_ok,hi,Sem.run_pure,hz]
    simp only[execOp,ha.eval hx,Instr.typeAssert,Sem.run_bind,run_underlying hds,Result.andThen_ok]
    cases ds<;>first|(exact absurd rfl (hne _))|simp[Sem.run_pure,hn,hzv]
end
def AR{C:Ctx}{c:Code}{Q:Exit→Act→List Frame→World→Prop}{a:Act}{cs:List Frame}{w:World}{E:Env}{L:List ad}(ha:gr C E a)(hi:Inv C.w0 L w)(h:Wp C c (qr C fun e a w=>Q e a cs w) E L):c.wpS C.P Q a cs w:=wpS_of_wp (N4 h a w ha hi)
def Gt{P:Program}{w0:World}{X:List PanicEntry→List ad→Prop}(x y:Value):gr ⟨P,w0,19,[],X⟩ [(6,y),(0,x)] {tmps:= #[x]++(Array.replicate 18 undef).setIfInBounds 5 y,defers:=[]}:=by
  refine⟨rfl,by simp,fun d v hd=>?_⟩
  rw[Env.jv] at hd
  split at hd
  · rename_i h;subst h;cases hd;simp
  · rw[Env.jv] at hd
    split at hd
    · rename_i h;subst h;cases hd;simp
    · simp[Env.get] at hd
end Go.Sl
namespace Go.Sl
def aA.fgt{P:Program}{f:FuncId}{args:List Value}{Pre:List ad}{v0:Value}{R:List ad→Prop}(h:aA P f args Pre (aF fun v G=>v=v0∧R G)):aA P f args Pre (aF fun _ G=>R G):=h.mono fun e G h=>by
  rcases h with⟨v,rfl,_,h⟩;exact⟨v,rfl,h⟩
end Go.Sl
namespace Go.Proofs.YtmaiakpjgomnpaaGreat
open Go.Sl 
def V.F8:td Tryz.prog 20=true:=by kernel_rfl
def V.NO:(Tryz.prog.info? 194).bind (·.zero)=some (.agg #[]):=by kernel_rfl
def V.YK:(Tryz.prog.info? 237).bind (·.zero)=some (.agg #[]):=by kernel_rfl
def su:∀(A M:List ad),fG (A++M) A M
  |[],M=>.nil
  |a::A,M=>.cons .head (su A M)
def Hc{w0:World}{L:List ad}(b:Nat)(x e:Int)(t:TypeId)(pv:Value)(hp:PE e (ku t pv))(older:List PanicEntry)(w:World)(hi:Inv w0 (ai b 27 [I6 x]::L) w):
    CallsD Tryz.prog 178 #[.pointer (soz b)] (.panicking ({v:=.iface t pv,recovered:=false}::older)) w fun e' u' w'=>
      e'=.returned (.tuple #[])∧u'=.panicking ({v:=.iface t pv,recovered:=true}::older)∧Inv w0 (ai b 27 [I6 e]::L) w':=by
  refine callsD_of_wpS Tryz.func178 rfl fun c₀ cs hu=>?_
  apply wpS_seq
  apply wpS_region
  simp[wpOpsS,go_sem,recoverD,hu,Tryz.ntmps178,Exit.thenS]
  refine AR (C:=⟨Tryz.prog,w0,19,[],fun _ _=>True⟩) (E:=[(6,.iface t pv),(0,.pointer (soz b))]) (Gt _ _) hi ?_
  rcases hp with⟨h,rfl⟩|⟨h,rfl⟩|⟨h,_⟩
  · simp only[ku,List.cons.injEq,PanicEntry.mk.injEq,Value.iface.injEq,and_true] at h
    obtain⟨rfl,rfl⟩:=h
    refine qN ?_
    refine ka (eS ?_)
    refine oV (vF V.F8 rfl rfl)<|(CY) ?_
    refine ka (eS ?_)
    refine oV (yn V.EZ rfl) ?_
    iterate 2 refine oV (fz rfl rfl) ?_
    refine(sf) ?_
    refine pV rfl ?_
    refine ka (eS ?_)
    refine de V.z194 rfl ?_
    intro bz
    refine cC (aZ V.a194 rfl rfl (us:=[]) rfl rfl .head (by exact Nat.le_of_ble_eq_true rfl) rfl)<|(sf)<|(QF)<|(Q7f) ?_
    refine ga<|qY ?_
    intro a w ha hi
    exact⟨ha.defers,_,rfl,.tuple #[],by simp[results,Tryz.results178],rfl,rfl,hi.tail⟩
  · simp only[ku,List.cons.injEq,PanicEntry.mk.injEq,Value.iface.injEq,and_true] at h
    obtain⟨rfl,rfl⟩:=h
    refine qN ?_
    refine ka (eS ?_)
    refine oV (vF V.F8 rfl rfl)<|(CY) ?_
    refine ka (eS ?_)
    refine oV (xH V.EZ V.NO dec rfl) ?_
    iterate 2 refine oV (fz rfl rfl) ?_
    refine(CY) ?_
    refine ka (eS ?_)
    refine oV (yn V.KQ rfl) ?_
    iterate 2 refine oV (fz rfl rfl) ?_
    refine(sf) ?_
    refine pV rfl ?_
    refine ka (eS ?_)
    refine de V.R7 rfl ?_
    intro bz
    refine cC (aZ V.acm rfl rfl (us:=[]) rfl rfl .head (by exact Nat.le_of_ble_eq_true rfl) rfl)<|(sf)<|(QF)<|(Q7f) ?_
    refine ga<|qY ?_
    intro a w ha hi
    exact⟨ha.defers,_,rfl,.tuple #[],by simp[results,Tryz.results178],rfl,rfl,hi.tail⟩
  · simp only[ku,List.cons.injEq,PanicEntry.mk.injEq,Value.iface.injEq,and_true] at h
    obtain⟨rfl,rfl⟩:=h
    refine qN ?_
    refine ka (eS ?_)
    refine oV (vF V.F8 rfl rfl)<|(CY) ?_
    refine ka (eS ?_)
    refine oV (xH V.EZ V.NO dec rfl) ?_
    iterate 2 refine oV (fz rfl rfl) ?_
    refine(CY) ?_
    refine ka (eS ?_)
    refine oV (xH V.KQ V.YK dec rfl) ?_
    iterate 2 refine oV (fz rfl rfl) ?_
    refine(CY) ?_
    refine ka (eS ?_)
    refine oV (yn V.GV rfl) ?_
    iterate 2 refine oV (fz rfl rfl) ?_
    refine(sf) ?_
    refine pV rfl ?_
    refine ka (eS ?_)
    refine(Ei)<|(sf)<|(QF)<|(Q8)<|(Y4) ?_
    refine ga<|qY ?_
    intro a w ha hi
    exact⟨ha.defers,_,rfl,.tuple #[],by simp[results,Tryz.results178],rfl,rfl,hi⟩
def E6{w0:World}{L:List ad}(b:Nat)(w:World)(hi:Inv w0 L w):
    CallsD Tryz.prog 178 #[.pointer (soz b)] .returning w fun e u' w'=>e=.returned (.tuple #[])∧u'=.returning∧Inv w0 L w':=by
  refine callsD_of_wpS Tryz.func178 rfl fun c₀ cs hu=>?_
  apply wpS_seq
  apply wpS_region
  simp[wpOpsS,go_sem,recoverD,hu,Tryz.ntmps178,Exit.thenS]
  refine AR (C:=⟨Tryz.prog,w0,19,[],fun _ _=>True⟩) (E:=[(6,.nilIface),(0,.pointer (soz b))]) (Gt _ _) hi<|qN ?_
  refine ka (eS ?_)
  refine oV (LG V.F8 rfl)<|(sf) ?_
  refine pV rfl<|(QF)<|(tu) ?_
  refine qY ?_
  intro a w ha hi
  cases c₀
  exact⟨ha.defers,_,by simp_all,.tuple #[],by simp[results,Tryz.results178],rfl,rfl,hi⟩
def yG{C:Ctx}{a:Act}{E:Env}{L:List ad}{w:World}{b:Nat}{x:Int}(hP:C.P=Tryz.prog)(ha:gr C E a)(ht:E.get 2=some (.pointer (soz b)))(hi:Inv C.w0 (ai b 27 [I6 x]::L) w):
    (results Tryz.f167 a.tmps).run Tryz.prog w=.ok (I6 x) w:=by
  have h1:=ha.get _ _ ht
  have h2:=hi.jq 0
  simp only[List.getElem?_cons_zero] at h2
  simp[results,Tryz.results167,h1,go_sem,h2]
def LB{f:FuncId}{cs:List Value}{Pre:List ad}{R:List ad→Prop}(hS:aA Tryz.prog f cs Pre (aF fun _ G=>R G))(hb:az Tryz.prog f=true):
    aA Tryz.prog 167 [.func (.func f) #[] cs.toArray] Pre (aF fun v G=>v=I6 0∧R G):=by
  refine BF [(0,_)] Tryz.func167 rfl Tryz.ntmps167 rfl rfl ?_
  intro w0 F
  refine si (eS ?_)
  refine de V.z27 rfl ?_
  intro b2
  refine(sf) ?_
  refine BL (caps:=[.tmp 2]) rfl rfl<|si<|(QF)<|(Zj) ?_
  refine Re (fs:=[]) (vs:=[]) (cs:=cs) hS hb rfl rfl (su _ _) rfl ?_
  intro v G hR
  refine(sf) ?_
  refine si<|(QF) ?_
  refine BK (L':=ai b2 27 [I6 0]::(G++F)) List.perm_middle<|(Y4)<|(sf) ?_
  refine N4 (NK ?_)
  intro a w ha hi
  show Leaves _ _ _ _ a.defers _ _
  rw[ha.defers]
  refine leaves_cons (f:=178) (args:= #[.pointer (soz b2)]) (by simp) ?_ ?_
  · simp[invoke,gM V.SR]
  refine(E6 b2 w hi).mono ?_
  rintro e u' w' ⟨rfl,rfl,hi⟩
  exact⟨I6 0,yG rfl ha rfl hi,G,hi.tail,_,rfl,rfl,hR⟩
def Kh{f:FuncId}{cs:List Value}{Pre:List ad}{e:Int}{R:List ad→Prop}(hS:aA Tryz.prog f cs Pre (uD fun ch G=>PE e ch∧R G))(hb:az Tryz.prog f=true):
    aA Tryz.prog 167 [.func (.func f) #[] cs.toArray] Pre (aF fun v G=>v=I6 e∧R G):=by
  refine BF [(0,_)] Tryz.func167 rfl Tryz.ntmps167 rfl rfl ?_
  intro w0 F
  refine si (eS ?_)
  refine de V.z27 rfl ?_
  intro b2
  refine(sf) ?_
  refine BL (caps:=[.tmp 2]) rfl rfl<|si<|(QF)<|(Zj) ?_
  refine Kq (fs:=[]) (vs:=[]) (cs:=cs) hS hb rfl rfl (su _ _) ?_
  rintro ch G ⟨hp,hR⟩
  refine dK ?_
  intro a w ha hi
  show Leaves _ _ _ _ a.defers _ _
  rw[ha.defers]
  have hi2:Inv w0 (ai b2 27 [I6 0]::(G++F)) w:=hi.perm List.perm_middle
  refine leaves_cons (f:=178) (args:= #[.pointer (soz b2)]) (by simp) ?_ ?_
  · simp[invoke,gM V.SR]
  obtain⟨t,u,rfl⟩:∃t u,ch=ku t u:=by
    rcases hp with⟨h,_⟩|⟨h,_⟩|⟨h,_⟩<;>exact⟨_,_,h⟩
  refine(Hc b2 0 e t u hp [] w hi2).mono ?_
  rintro e' u' w' ⟨rfl,rfl,hi3⟩
  exact⟨I6 e,yG rfl ha rfl hi3,G,hi3.tail,_,rfl,rfl,hR⟩
end Go.Proofs.YtmaiakpjgomnpaaGreat
namespace Go.Proofs.YtmaiakpjgomnpaaGreat
open Go.Sl 
attribute [local irreducible] ae.bp ae.tk ae.ord ae.bV ae.words ae.cU ab.gG ab.bX ab.cu ab.dG ab.hL ab.hD ab.hC ab.fg ab.told ab.dO ab.jH ab.rep ab.eL ab.dQ ab.sym ab.cT ag.aG ab.eW ab.dk ab.one ab.eK
def xM{b bl:Nat}{sz mo:Int}{B:List Int}{s:ab.St}{w0:World}{h:Hp}(hh:MM b bl sz mo B s w0 h):∃i:Pv,True∧cY w0 [MS b bl sz mo i.li i.di s,LW bl B s.at_ [] 0,CD i.li i.di s] h:=hh
def MD (b bl:Nat) (sz mo e:Int):ad:=fun w0 h=>∃i:Vx,True∧cY w0 [ai b 223 [.pointer (soz bl),I6 sz,I6 mo,.slice none 0 0,.bool true,I6 e,i.v6,i.v7,i.v8,i.v9,i.v10,i.v11,i.v12]] h
def kC{b bl:Nat}{sz mo e:Int}{v6 v7 v8 v9 v10 v11 v12:Value}{w0:World}{h:Hp}
  (hh:cY w0 [ai b 223 [.pointer (soz bl),I6 sz,I6 mo,.slice none 0 0,.bool true,I6 e,v6,v7,v8,v9,v10,v11,v12]] h):MD b bl sz mo e w0 h:=⟨⟨.nilFunc,.nilFunc,.nilFunc,v6,v7,v8,v9,v10,v11,v12⟩,trivial,hh⟩
def MJ (b bl:Nat) (sz mo:Int) (B:List Int):ab.Jt→ad
 |.ok s=>MM b bl sz mo B s
 |.error e=>MD b bl sz mo e

def DC(bm bw bn b bl:Nat)(sz mo:Int)(w:Nat)(n:Int)(s0:ab.St)(o:Except Int ab.St)(B:List Int)(hl:B.length<500000000)(hB:ag.aq B)(hm:mo<1000000000)(hw:w<1000000000)(hok0:ab.Ok B mo s0)(hlp0:ab.Lp B mo w n s0 o):aA Tryz.prog 168 [.pointer (soz bm),.pointer (soz bw),.pointer (soz bn)] [ai bm 204 [.pointer (soz b)],ai bw 3 [I6 (w:Int)],ai bn 3 [I6 n],MM b bl sz mo B s0] (iP o (fun s2 v G=>v=.tuple #[]∧G=[ai bm 204 [.pointer (soz b)],ai bw 3 [I6 (w:Int)],ai bn 3 [I6 n],MM b bl sz mo B s2]) [ai bm 204 [.pointer (soz b)],ai bw 3 [I6 (w:Int)],ai bn 3 [I6 n],MX b bl sz mo]):=by
 refine ao [(0,_),(1,_),(2,_)] Tryz.func168 rfl Tryz.ntmps168 rfl rfl ?_
 intro w0 F
 refine rT TT 1 rfl ?_
 refine cF (fun(s:ab.St)=>[(0,.pointer (soz bm)),(1,.pointer (soz bw)),(2,.pointer (soz bn))]) (fun(s:ab.St)=>MM b bl sz mo B s::ai bm 204 [.pointer (soz b)]::ai bw 3 [I6 (w:Int)]::ai bn 3 [I6 n]::F) (fun(s:ab.St)=>ab.Ok B mo s∧ab.Lp B mo w n s o) (fun(s:ab.St)=>ab.mu B s) (i1 (s0) ?_ (eo ln) (sub (.cons cB (dV .nil)) aj)) ?_
 ·exact⟨hok0,hlp0⟩
 intro s
 rintro⟨hok,hlp⟩
 rcases(Bool.eq_false_or_eq_true s.ended) with he|he
 ·refine rL TT 2 rfl ?_
  have hro:=hok.room
  refine(yJ) ?_
  rintro⟨li,di⟩ _
  dsimp only
  simp only[List.cons_append,List.nil_append]
  refine(vX) ?_
  rintro⟨po,co⟩ _
  dsimp only
  simp only[List.cons_append,List.nil_append]
  refine wN [pz 0 [] [0],pz 1 [0] [],pz 3 [1] [],pz 7 [2] [],pz 15 [3] [],pz 31 [4] [],pz 63 [5] [0],pz 127 [6,5] [],pz 255 [7,5] [],pz 511 [8,5] [],pz 1023 [9,5] [],pz 63 [5] [1],pz 4095 [10,11,5] [],pz 63 [5] [2],pz 16383 [12,13,5] [],pz 32767 [5,14] []] [⟨fun y=>ai b 223 [.pointer (soz bl),I6 sz,I6 mo,.slice po s.out.length co,.bool s.ended,I6 0,I6 s.kind,I6 (s.left:Int),.bool s.last,li,di,I6 (s.ax:Int),I6 (s.cm:Int)],none,none,[3]⟩,⟨fun y=>Row U5 po s.out.length co s.out,none,none,[]⟩,⟨fun y=>LW bl B s.at_ [] 0,none,none,[]⟩,⟨fun y=>CD li di s,none,none,[]⟩,⟨fun y=>ai bm 204 [.pointer (soz b)],none,none,[0]⟩,⟨fun y=>ai bw 3 [I6 (w:Int)],none,none,[]⟩,⟨fun y=>ai bn 3 [I6 n],none,none,[]⟩] F V.mixed ?_
  refine nR (fun y FF hA=>aB V.vd rfl ay rfl) ?_
  refine nN ?_
  refine nG V.BY ?_
  refine nR (fun y FF hA=>cn (v:=.bool true) (aB V.s4 rfl ay rfl) (by rw[he])) ?_
  refine nV (fun y hA L=>cn (v:=.bool false) (n8 rfl) rfl) ?_
  refine nM ?_
  refine(kH) ?_
  refine(kH) ?_
  refine(kH) ?_
  refine(kH) ?_
  refine(kH) ?_
  refine(kH) ?_
  refine(kH) ?_
  refine(kH) ?_
  refine(kH) ?_
  refine nV (fun y hA L=>pR rfl rfl) ?_
  refine(Qi) ?_
  intro y hA
  clear hA
  refine bJ<|(Q7h)<|(Q7i)<|(Qb) ?_
  refine(fun hs=>iH (x:=s) (ab.ND hlp (by exact .inl he)) fI ⟨rfl,rfl⟩ (Sl.Sub.trans ((aS (aJ .nil) .refl (fun w0 h hh=>dL (s:=s) rfl hh)).trans (aS (dV .nil) .refl (fun w0 h hh=>gm (s:=s) hh))) hs)) (sub (.cons ar (.cons ar (.cons ar (an .nil)))) aj)
 ·refine rL TT 2 rfl ?_
  have hro:=hok.room
  refine(yJ) ?_
  rintro⟨li,di⟩ _
  dsimp only
  simp only[List.cons_append,List.nil_append]
  refine(vX) ?_
  rintro⟨po,co⟩ _
  dsimp only
  simp only[List.cons_append,List.nil_append]
  refine wN [pz 0 [] [0],pz 1 [0] [],pz 3 [1] [],pz 7 [2] [],pz 15 [3] [],pz 31 [4] [],pz 63 [5] [0],pz 127 [6,5] [],pz 255 [7,5] [],pz 511 [8,5] [],pz 1023 [9,5] [],pz 63 [5] [1],pz 4095 [10,11,5] [],pz 63 [5] [2],pz 16383 [12,13,5] [],pz 32767 [5,14] []] [⟨fun y=>ai b 223 [.pointer (soz bl),I6 sz,I6 mo,.slice po s.out.length co,.bool s.ended,I6 0,I6 s.kind,I6 (s.left:Int),.bool s.last,li,di,I6 (s.ax:Int),I6 (s.cm:Int)],none,none,[3,9]⟩,⟨fun y=>Row U5 po s.out.length co s.out,none,none,[]⟩,⟨fun y=>LW bl B s.at_ [] 0,none,none,[]⟩,⟨fun y=>CD li di s,none,none,[]⟩,⟨fun y=>ai bm 204 [.pointer (soz b)],none,none,[0,6]⟩,⟨fun y=>ai bw 3 [I6 (w:Int)],none,none,[11]⟩,⟨fun y=>ai bn 3 [I6 n],none,none,[13]⟩] F V.mixed ?_
  refine nR (fun y FF hA=>aB V.vd rfl ay rfl) ?_
  refine nN ?_
  refine nG V.BY ?_
  refine nR (fun y FF hA=>cn (v:=.bool false) (aB V.s4 rfl ay rfl) (by rw[he])) ?_
  refine nV (fun y hA L=>cn (v:=.bool true) (n8 rfl) rfl) ?_
  refine nM ?_
  refine lM _ _ (fun y=>rfl) rfl (fun y=>rfl) rfl (fun y FF hA=>eR rfl (dm (aB V.vd rfl ay rfl) ⟨rfl,rfl⟩)) (by intros;rfl) (by intro y y2 h;rfl) ?_
  refine dv _ (fun y=>rfl) rfl rfl rfl (fun y hA L=>eR rfl (dm (F3 rfl) ⟨rfl,rfl⟩)) (by intros;rfl) (by intro y y2 h;rfl) ?_
  refine dv _ (fun y=>rfl) rfl rfl rfl (fun y hA L=>eR rfl (dm (bP V.kK rfl) ⟨rfl,rfl⟩)) (by intros;rfl) (by intro y y2 h;rfl) ?_
  refine lM _ _ (fun y=>rfl) rfl (fun y=>rfl) rfl (fun y FF hA=>eR rfl (dm (aB V.kO rfl ay rfl) ⟨rfl,rfl⟩)) (by intros;rfl) (by intro y y2 h;rfl) ?_
  refine dv _ (fun y=>rfl) rfl rfl rfl (fun y hA L=>eR rfl (dm (lA (ty':=0) Tryz.underlying22 rfl) ⟨rfl,rfl⟩)) (by intros;rfl) (by intro y y2 h;rfl) ?_
  refine(VY) ?_
  refine(UY) ?_
  refine(VY) ?_
  refine(Q6D) ?_
  refine nV (fun y hA L=>ow rfl rfl) ?_
  refine(Qi) ?_
  intro y hA
  clear hA
  refine bJ<|(Q7h)<|(Q7i) ?_
  refine av rfl (fun h18=>?_) (fun h18=>?_)
  ·refine(Q3) ?_
   rcases(ab.eO (ab.one B mo s)) with⟨e,hp⟩|⟨s2,hp⟩
   ·refine(Q7j)<|(QF)<|(lT) ?_
    refine dY ((NP b bl sz mo s B hl hB hm hok).err hp) V.V2 rfl (an .nil) ?_
    rintro _ _ ⟨hpe,rfl⟩
    refine(fC (dK (fC ?_)))
    exact ef (ab.Yo hlp he omg hp) hpe (sub (.cons ar (.cons ar (.cons ar (an .nil)))) aj)
   ·refine(Q7j) ?_
    have hg:=ab.dX hB hok hp
    refine(QF)<|(lT) ?_
    refine oC ((NP b bl sz mo s B hl hB hm hok).ok hp) V.V2 rfl (an .nil) rfl<|(Q9) ?_
    refine j1 (s2) ?_ (eo ln) (sub (jm .nil) aj)
    exact⟨⟨hg.ok,ab.XX hlp he omg hp⟩,hg.less⟩
  ·refine(Q4) ?_
   refine(fun hs=>iH (x:=s) (ab.ND hlp (by exact .inr omg)) fI ⟨rfl,rfl⟩ (Sl.Sub.trans ((aS (aJ .nil) .refl (fun w0 h hh=>dL (s:=s) rfl hh)).trans (aS (dV .nil) .refl (fun w0 h hh=>gm (s:=s) hh))) hs)) (sub (.cons ar (.cons ar (.cons ar (an .nil)))) aj)
end Go.Proofs.YtmaiakpjgomnpaaGreat

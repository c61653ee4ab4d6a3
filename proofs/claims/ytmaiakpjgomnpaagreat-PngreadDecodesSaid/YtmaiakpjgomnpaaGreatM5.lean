/- Walks of functions that the law reaches, and what they lean on; no conditions. -/
import Derived.Test.YtmaiakpjgomnpaaGreatM4
import Derived.Test.YtmaiakpjgomnpaaGreatProg
set_option linter.defProp false
set_option maxHeartbeats 16000000
set_option maxRecDepth 100000
set_option linter.unusedVariables false
set_option linter.unusedSimpArgs false
set_option maxRecDepth 100000
namespace Go.aa
open Go.ag Go.Sl
def mY (l:List Ch) (k:List Int):List Int:=l.foldl (fun d c=>if c.k=k then c.d else d) []
def kP{L:List Ch}{i:Nat}{x:Ch}(h:L[i]?=some x):L.take (i+1)=L.take i++[x]:=by
 rw[List.take_add_one,h];rfl
def l8{L:List Ch}{i:Nat}{x:Ch}{k:List Int}(h:L[i]?=some x):mY (L.take (i+1)) k=if x.k=k then x.d else mY (L.take i) k:=by
 rw[kP h];simp[mY]
def nq{L:List Ch}{i:Nat}{x:Ch}{k:List Int}(h:L[i]?=some x):eM (L.take (i+1)) k=(eM (L.take i) k||(x.k==k)):=by
 rw[kP h];simp[eM]
def qv{L:List Ch}{i:Nat}{x:Ch}(h:L[i]?=some x):bS (L.take (i+1))=if x.k=aW then bS (L.take i)++x.d else bS (L.take i):=by
 rw[kP h]
 unfold bS
 rw[List.filter_append,List.flatMap_append,List.filter_cons,List.filter_nil]
 by_cases hk:x.k=aW
 ·simp[hk]
 ·simp[hk]
def sX(L:List Ch)(i:Nat):kn (L.take i)≤kn L:=by
 conv=>rhs;rw[←List.take_append_drop i L]
 unfold kn
 rw[List.map_append,List.sum_append]
 omega
def M3:aR≠ba:=by decide
def Vq:aR≠aW:=by decide
def VQ:ba≠aW:=by decide
def cnt (k:List Int) (l:List Ch):Nat:=(l.filter fun c=>c.k==k).length
def zH(k:List Int)(c:Ch)(l:List Ch):cnt k (c::l)=(if c.k=k then 1 else 0)+cnt k l:=by
 unfold cnt
 rw[List.filter_cons]
 by_cases h:c.k=k
 ·simp[h];omega
 ·simp[h]
def zi{k:List Int}:∀ {l:List Ch} {d:List Int},cnt k l=0→l.foldl (fun d c=>if c.k=k then c.d else d) d=d
 |[],d,_=>rfl
 |c::l,d,h=>by
  rw[zH] at h
  have hc:c.k≠k:=fun e=>by rw[if_pos e] at h;omega
  rw[List.foldl_cons,if_neg hc]
  exact zi omg
def xD{k:List Int}:∀ {l:List Ch},cnt k l≤1→mY l k=bY l k
 |[],_=>rfl
 |c::l,h=>by
  rw[zH] at h
  unfold mY bY
  rw[List.foldl_cons,List.find?_cons]
  by_cases hc:c.k=k
  ·rw[if_pos hc] at h ⊢
   rw[zi omg]
   simp[hc]
  ·rw[if_neg hc] at h ⊢
   have:=xD (k:=k) (l:=l) omg
   unfold mY bY at this
   have hb:(c.k==k)=false:=beq_false_of_ne hc
   simp only[hb,if_neg hc,this]
def Iu{n i:Nat}{prev:List Int}{c:Ch}{s s2:Od}(h:bE n i prev c s=some s2):s2.eX=s.eX+(if c.k=aR then 1 else 0)∧s2.dT=s.dT+(if c.k=ba then 1 else 0):=by
 have d1:bM≠aR:=by decide
 have d2:bM≠ba:=by decide
 have d3:aY≠aR:=by decide
 have d4:aY≠ba:=by decide
 have d5:aW≠aR:=by decide
 have d6:aW≠ba:=by decide
 have d7:aR≠ba:=by decide
 unfold bE at h
 split at h
 ·rename_i hk
  rw[hk,if_neg d1,if_neg d2]
  split at h
  ·cases h
  ·cases h;exact⟨rfl,rfl⟩
 ·split at h
  ·rename_i hk
   rw[hk,if_neg d3,if_neg d4]
   split at h
   ·cases h
   ·cases h;exact⟨rfl,rfl⟩
  ·split at h
   ·rename_i hk
    rw[hk,if_neg d5,if_neg d6]
    split at h
    ·cases h
    ·cases h;exact⟨rfl,rfl⟩
   ·split at h
    ·rename_i hk
     rw[hk,if_pos rfl,if_neg d7]
     split at h
     ·cases h
     ·cases h;exact⟨rfl,rfl⟩
    ·rename_i hp
     split at h
     ·rename_i hk
      rw[if_neg hp,if_pos hk]
      split at h
      ·cases h
      ·cases h;exact⟨rfl,rfl⟩
     ·rename_i hk
      rw[if_neg hp,if_neg hk]
      split at h
      ·cases h
      ·cases h;exact⟨rfl,rfl⟩
def C3{n:Nat}:∀ {l:List Ch} {i:Nat} {prev:List Int} {s:Od},jK n i prev l s=true→s.eX+cnt aR l≤1∧s.dT+cnt ba l≤1
 |[],i,prev,s,h=>by
  rw[jK] at h
  unfold lD at h
  simp only[Bool.and_eq_true,decide_eq_true_eq] at h
  exact⟨h.1.2,h.2⟩
 |c::l,i,prev,s,h=>by
  rw[jK] at h
  split at h
  ·cases h
  ·rename_i s2 hs
   have ih:=C3 h
   obtain⟨e1,e2⟩:=Iu hs
   rw[zH,zH]
   omega
def J9{l:List Ch}(h:dH l=true):mY l aR=bY l aR∧mY l ba=bY l ba:=by
 rw[←ET] at h
 have:=C3 h
 exact⟨xD omg,xD omg⟩
def o5{l:List Ch}(h:dH l=true):3≤l.length:=by
 unfold dH at h
 simp only[Bool.and_eq_true,decide_eq_true_eq] at h
 exact h.1.1.1.1.1
def BS{k:List Int}:∀ {L:List Ch} {i:Nat} {x:Ch},L[i]?=some x→x.k=k→(∀j,j<i→∀c,L[j]?=some c→c.k≠k)→bY L k=x.d∧eM L k=true
 |[],i,x,h,_,_=>by simp at h
 |c::L,0,x,h,hk,_=>by
  simp only[List.getElem?_cons_zero,Option.some.injEq] at h
  subst h
  simp[bY,eM,hk]
 |c::L,i+1,x,h,hk,hall=>by
  simp only[List.getElem?_cons_succ] at h
  have hc:=hall 0 omg c rfl
  have:=BS h hk (fun j hj y hy=>hall (j+1) omg y (by simpa using hy))
  unfold bY eM at this ⊢
  have hb:(c.k==k)=false:=beq_false_of_ne hc
  simp only[List.find?_cons,List.any_cons,hb,Bool.false_or,this]
  exact⟨trivial,trivial⟩
def zX{k:List Int}:∀ {L:List Ch},(∀j,j<L.length→∀c,L[j]?=some c→c.k≠k)→bY L k=[]∧eM L k=false
 |[],_=>⟨rfl,rfl⟩
 |c::L,hall=>by
  have hc:=hall 0 (by simp) c rfl
  have:=zX (k:=k) (L:=L) (fun j hj y hy=>hall (j+1) (by simp;omega) y (by simpa using hy))
  unfold bY eM at this ⊢
  have hb:(c.k==k)=false:=beq_false_of_ne hc
  simp only[List.find?_cons,List.any_cons,hb,Bool.false_or,this]
  exact⟨trivial,trivial⟩
def kc{k:List Int}{L:List Ch}(h:eM L k=false):bY L k=[]:=by
 unfold eM at h
 unfold bY
 have:L.find? (fun c=>c.k==k)=none:=by
  rw[List.find?_eq_none]
  intro c hc hk
  rw[List.any_eq_false] at h
  exact h c hc hk
 rw[this]
def eZ (h:Hd) (plte:List Int) (has:Bool):Prop:=if has then¬(h.ak=0∨h.ak=4)∧(h.ak=3→(plte.length:Int)/3≤2^h.dep.toNat)∧plte.length%3=0∧0<plte.length∧plte.length/3≤256 else h.ak≠3
def gK (h:Hd) (plte trns:List Int) (is:Bool):Prop:=is=true→(h.ak=3∧trns.length≤plte.length/3)∨(h.ak=0∧trns.length=2)∨(h.ak=2∧trns.length=6)
instance (h:Hd) (plte:List Int) (has:Bool):Decidable (eZ h plte has):=by unfold eZ;infer_instance
instance (h:Hd) (plte trns:List Int) (is:Bool):Decidable (gK h plte trns is):=by unfold gK;infer_instance
def iA(h:Hd)(plte:List Int)(has:Bool)(trns:List Int)(is:Bool):oF h plte has trns is↔eZ h plte has∧gK h plte trns is:=Iff.rfl
def RV(h:Hd)(plte:List Int):eZ h plte false↔h.ak≠3:=Iff.rfl
def Ha{h:Hd}{plte:List Int}{P:Int}(hP:P=2^h.dep.toNat):(h.ak=0∧¬eZ h plte true)∨(¬h.ak=0∧h.ak=4∧¬eZ h plte true)∨
  (¬h.ak=0∧¬h.ak=4∧h.ak=3∧P<(plte.length:Int)/3∧¬eZ h plte true)∨
  (¬h.ak=0∧¬h.ak=4∧h.ak=3∧¬P<(plte.length:Int)/3∧(eZ h plte true↔plte.length%3=0∧0<plte.length∧plte.length/3≤256))∨
  (¬h.ak=0∧¬h.ak=4∧¬h.ak=3∧(eZ h plte true↔plte.length%3=0∧0<plte.length∧plte.length/3≤256)):=by
 subst hP
 unfold eZ
 simp only[if_true]
 by_cases h0:h.ak=0
 ·exact .inl ⟨h0,fun hh=>hh.1 (.inl h0)⟩
 ·by_cases h4:h.ak=4
  ·exact .inr (.inl ⟨h0,h4,fun hh=>hh.1 (.inr h4)⟩)
  ·by_cases h3:h.ak=3
   ·by_cases hp:(2:Int)^h.dep.toNat<(plte.length:Int)/3
    ·exact .inr (.inr (.inl ⟨h0,h4,h3,hp,fun hh=>Int.not_lt.2 (hh.2.1 h3) hp⟩))
    ·exact .inr (.inr (.inr (.inl ⟨h0,h4,h3,hp,⟨fun hh=>hh.2.2,fun hh=>⟨fun h=>h.elim h0 h4,fun _=>Int.not_lt.1 hp,hh⟩⟩⟩)))
   ·exact .inr (.inr (.inr (.inr ⟨h0,h4,h3,⟨fun hh=>hh.2.2,fun hh=>⟨fun h=>h.elim h0 h4,fun h=>absurd h h3,hh⟩⟩⟩)))
def UD(n:Nat):(¬n%3=0)∨(n%3=0∧¬0<n)∨(n%3=0∧0<n):=omg
def JB(h:Hd)(plte trns:List Int):gK h plte trns false:=fun hh=>by cases hh
def Un(h:Hd)(plte trns:List Int):(h.ak=3∧(gK h plte trns true↔trns.length≤plte.length/3))∨(¬h.ak=3∧h.ak=0∧¬trns.length=2∧¬gK h plte trns true)∨(¬h.ak=3∧h.ak=0∧trns.length=2∧gK h plte trns true)∨
  (¬h.ak=3∧¬h.ak=0∧h.ak=2∧¬trns.length=6∧¬gK h plte trns true)∨(¬h.ak=3∧¬h.ak=0∧h.ak=2∧trns.length=6∧gK h plte trns true)∨(¬h.ak=3∧¬h.ak=0∧¬h.ak=2∧¬gK h plte trns true):=by
 unfold gK
 simp only[true_implies]
 omega
def DV{x P:Int}{d:Int}(hP:P=2^d.toNat)(hd:jz d)(hx:0≤x∧x<65536):IntKind.i64.wrap ((BitVec.ofInt IntKind.i64.bits x&&&BitVec.ofInt IntKind.i64.bits (P-1)).toNat:Int)=x%P:=by
 obtain⟨n,rfl⟩:∃n:Nat,x=(n:Int):=⟨x.toNat,omg⟩
 subst hP
 have key:∀m:Nat,m≤16→IntKind.i64.wrap ((BitVec.ofInt IntKind.i64.bits (n:Int)&&&BitVec.ofInt IntKind.i64.bits (2^m-1)).toNat:Int)=(n:Int)%2^m:=by
  intro m hm
  have e:IntKind.i64.bits=64:=rfl
  have hp:(2:Nat)^m≤2^16:=Nat.pow_le_pow_right dec hm
  have hp1:(1:Nat)≤2^m:=Nat.one_le_two_pow
  have e1:BitVec.ofInt 64 ((2:Int)^m-1)=BitVec.ofNat 64 (2^m-1):=by
   rw[show(2:Int)^m-1=((2^m-1:Nat):Int) from by push_cast [hp1];rfl,BitVec.ofInt_natCast]
  rw[e,BitVec.ofInt_natCast,e1,BitVec.toNat_and,BitVec.toNat_ofNat,BitVec.toNat_ofNat,Nat.mod_eq_of_lt omg,Nat.mod_eq_of_lt omg,Nat.and_two_pow_sub_one_eq_mod]
  have h2:n%2^m≤n:=Nat.mod_le ..
  rw[gI omg omg]
  simp
 exact key _ (by have:=iz hd;omega)
def Yr{h:Hd}{trns:List Int}(hc:h.ak=0∨h.ak=2)(hl:trns.length/2=(parts h.ak).toNat){i:Nat}(hi:i<(parts h.ak).toNat):(bd h trns).take (i+1)=(bd h trns).take i++[(trns.getD (2*i) 0*256+trns.getD (2*i+1) 0)%2^h.dep.toNat]∧(bd h trns).length=(parts h.ak).toNat:=by
 unfold bd
 rw[if_pos hc]
 refine⟨?_,by simp[hl]⟩
 rw[List.take_add_one]
 simp[hl,hi]
def C4{h:Hd}{trns:List Int}(hc:h.ak=0∨h.ak=2)(hl:trns.length/2=(parts h.ak).toNat):(bd h trns).length=(parts h.ak).toNat:=by
 unfold bd
 rw[if_pos hc];simp[hl]
def Xv{h:Hd}{trns:List Int}(hc:¬(h.ak=0∨h.ak=2)):bd h trns=[]:=by unfold bd;rw[if_neg hc]
def uk(h:Hd):bd h []=[]:=by unfold bd;split<;>rfl
end Go.aa
namespace Go.aa
open Go.ag Go.Sl
def VM{h:Hd}{plte:List Int}{P:Int}(hP:P=2^h.dep.toNat)(has:Bool):has=false∨(has=true∧h.ak=0∧¬eZ h plte true)∨(has=true∧¬h.ak=0∧h.ak=4∧¬eZ h plte true)∨
  (has=true∧¬h.ak=0∧¬h.ak=4∧¬plte.length%3=0∧¬eZ h plte true)∨(has=true∧¬h.ak=0∧¬h.ak=4∧plte.length%3=0∧plte.length/3<1∧¬eZ h plte true)∨
  (has=true∧¬h.ak=0∧¬h.ak=4∧plte.length%3=0∧¬plte.length/3<1∧256<plte.length/3∧¬eZ h plte true)∨
  (has=true∧¬h.ak=0∧¬h.ak=4∧plte.length%3=0∧¬plte.length/3<1∧¬256<plte.length/3∧h.ak=3∧P<(plte.length:Int)/3∧¬eZ h plte true)∨
  (has=true∧¬h.ak=0∧¬h.ak=4∧plte.length%3=0∧¬plte.length/3<1∧¬256<plte.length/3∧h.ak=3∧¬P<(plte.length:Int)/3∧eZ h plte true)∨
  (has=true∧¬h.ak=0∧¬h.ak=4∧plte.length%3=0∧¬plte.length/3<1∧¬256<plte.length/3∧¬h.ak=3∧eZ h plte true):=by
 cases has with
 |false=>exact .inl rfl
 |true=>
  refine .inr ?_
  have hl:(plte.length%3=0∧0<plte.length∧plte.length/3≤256)∨¬plte.length%3=0∨(plte.length%3=0∧plte.length/3<1)∨(plte.length%3=0∧¬plte.length/3<1∧256<plte.length/3):=omg
  rcases Ha (plte:=plte) hP with⟨a,e⟩|⟨a,b,e⟩|⟨a,b,c,d,e⟩|⟨a,b,c,d,e⟩|⟨a,b,c,e⟩
  ·exact .inl ⟨rfl,a,e⟩
  ·exact .inr (.inl ⟨rfl,a,b,e⟩)
  ·rcases hl with hl|hl|hl|hl
   ·exact .inr (.inr (.inr (.inr (.inr (.inl ⟨rfl,a,b,hl.1,omg,omg,c,d,e⟩)))))
   ·exact .inr (.inr (.inl ⟨rfl,a,b,hl,e⟩))
   ·exact .inr (.inr (.inr (.inl ⟨rfl,a,b,hl.1,hl.2,e⟩)))
   ·exact .inr (.inr (.inr (.inr (.inl ⟨rfl,a,b,hl.1,hl.2.1,hl.2.2,e⟩))))
  ·rcases hl with hl|hl|hl|hl
   ·exact .inr (.inr (.inr (.inr (.inr (.inr (.inl ⟨rfl,a,b,hl.1,omg,omg,c,d,e.2 hl⟩))))))
   ·exact .inr (.inr (.inl ⟨rfl,a,b,hl,fun q=>hl (e.1 q).1⟩))
   ·exact .inr (.inr (.inr (.inl ⟨rfl,a,b,hl.1,hl.2,fun q=>by have:=e.1 q;omega⟩)))
   ·exact .inr (.inr (.inr (.inr (.inl ⟨rfl,a,b,hl.1,hl.2.1,hl.2.2,fun q=>by have:=e.1 q;omega⟩))))
  ·rcases hl with hl|hl|hl|hl
   ·exact .inr (.inr (.inr (.inr (.inr (.inr (.inr ⟨rfl,a,b,hl.1,omg,omg,c,e.2 hl⟩))))))
   ·exact .inr (.inr (.inl ⟨rfl,a,b,hl,fun q=>hl (e.1 q).1⟩))
   ·exact .inr (.inr (.inr (.inl ⟨rfl,a,b,hl.1,hl.2,fun q=>by have:=e.1 q;omega⟩)))
   ·exact .inr (.inr (.inr (.inr (.inl ⟨rfl,a,b,hl.1,hl.2.1,hl.2.2,fun q=>by have:=e.1 q;omega⟩))))
def abZ(h:Hd)(plte:List Int)(has:Bool)(hy:has=true→eZ h plte true):(has=true∧h.ak=3∧eZ h plte true)∨(has=true∧¬h.ak=3∧eZ h plte true)∨(has=false∧h.ak=3∧¬eZ h plte false)∨(has=false∧¬h.ak=3∧eZ h plte false):=by
 cases has with
 |true=>
  by_cases h3:h.ak=3
  ·exact .inl ⟨rfl,h3,hy rfl⟩
  ·exact .inr (.inl ⟨rfl,h3,hy rfl⟩)
 |false=>
  by_cases h3:h.ak=3
  ·exact .inr (.inr (.inl ⟨rfl,h3,fun q=>q h3⟩))
  ·exact .inr (.inr (.inr ⟨rfl,h3,h3⟩))
def VC(h:Hd)(plte trns:List Int)(is:Bool):(is=false∧gK h plte trns false)∨(is=true∧h.ak=0∧(gK h plte trns true↔(trns.length:Int)=2))∨(is=true∧¬h.ak=0∧h.ak=2∧(gK h plte trns true↔(trns.length:Int)=6))∨
  (is=true∧¬h.ak=0∧¬h.ak=2∧h.ak=3∧(gK h plte trns true↔(trns.length:Int)≤(plte.length:Int)/3))∨(is=true∧¬h.ak=0∧¬h.ak=2∧¬h.ak=3∧¬gK h plte trns true):=by
 cases is with
 |false=>exact .inl ⟨rfl,JB h plte trns⟩
 |true=>
  refine .inr ?_
  unfold gK
  simp only[true_implies,true_and]
  omega
def JW{B:List Int}(hB:aq B){k:Nat}:cL B (16*k) 16=B.getD (2*k) 0*256+B.getD (2*k+1) 0:=by
 rw[show 16*k=8*(2*k) by omega,tV (hB.get _) (hB.get _)]
end Go.aa
namespace Go.aa
open Go.ag Go.Sl
def fm (f:Fl):Prop:=deep f.hd.ak f.hd.dep∧aq f.plte∧aq f.trns∧f.plte.length<500000000∧f.trns.length<500000000∧(f.hd.ak=0→f.trns.length=0∨f.trns.length=2)∧(f.hd.ak=2→f.trns.length=0∨f.trns.length=6)∧(f.hd.ak=4∨f.hd.ak=6→f.trns=[])∧(f.hd.ak=3→f.plte.length%3=0)
def fJ{c d:Int}(h:deep c d):(c=0∧parts c=1)∨(c=2∧parts c=3)∨(c=3∧parts c=1)∨(c=4∧parts c=2)∨(c=6∧parts c=4):=by
  have hp:=tp c
  unfold deep at h
  omega
def vt (pl tr:List Int) (k:Nat):Option (List Int):=if pl.length/3≤k then none else some [(pl.drop (3*k)).getD 0 0*257,(pl.drop (3*k)).getD 1 0*257,(pl.drop (3*k)).getD 2 0*257,if k<tr.length then tr.getD k 0*257 else 65535]
def oS (f:Fl) (v:List Int):Int:=if 0<(bd f.hd f.trns).length∧v=bd f.hd f.trns then 0 else if f.hd.ak=4∨f.hd.ak=6 then(v.map (up f.hd.dep)).getD ((v.map (up f.hd.dep)).length-1) 0 else 65535
def sr{f:Fl}{v:List Int}(h:f.hd.ak=3):gB f v=vt f.plte f.trns (v.getD 0 0).toNat:=by
  unfold gB vt
  rw[if_pos h]
  split
  · rfl
  · rw[ea,ea,ea]
    rfl
def wS{f:Fl}{v:List Int}(h:¬f.hd.ak=3):gB f v=some (if f.hd.ak=0∨f.hd.ak=4 then [(v.map (up f.hd.dep)).getD 0 0,(v.map (up f.hd.dep)).getD 0 0,(v.map (up f.hd.dep)).getD 0 0,oS f v] else [(v.map (up f.hd.dep)).getD 0 0,(v.map (up f.hd.dep)).getD 1 0,(v.map (up f.hd.dep)).getD 2 0,oS f v]):=by
  unfold gB oS
  rw[if_neg h]
  show(if f.hd.ak=0∨f.hd.ak=4 then _ else _)=_
  split<;>rfl
def um{f:Fl}{v:List Int}(h:f.hd.ak=0∨f.hd.ak=4):gB f v=some [(v.map (up f.hd.dep)).getD 0 0,(v.map (up f.hd.dep)).getD 0 0,(v.map (up f.hd.dep)).getD 0 0,oS f v]:=by rw[wS omg,if_pos h]
def yh{f:Fl}{v:List Int}(h:¬(f.hd.ak=0∨f.hd.ak=4))(h3:¬f.hd.ak=3):gB f v=some [(v.map (up f.hd.dep)).getD 0 0,(v.map (up f.hd.dep)).getD 1 0,(v.map (up f.hd.dep)).getD 2 0,oS f v]:=by rw[wS h3,if_neg h]
def HM{pl tr:List Int}{k:Nat}(h:pl.length/3≤k):vt pl tr k=none:=if_pos h
def AY{pl tr:List Int}{k:Nat}(h:¬pl.length/3≤k):vt pl tr k=some [(pl.drop (3*k)).getD 0 0*257,(pl.drop (3*k)).getD 1 0*257,(pl.drop (3*k)).getD 2 0*257,if k<tr.length then tr.getD k 0*257 else 65535]:=if_neg h
def FN{v:List Int}{d:Int}{i:Nat}(h:i<v.length):(v.map (up d)).take i++[up d (v.getD i 0)]=(v.map (up d)).take (i+1):=by
  rw[List.take_add_one]
  simp[h,List.getD_eq_getElem?_getD]
def oz{v:List Int}{d:Int}{i:Nat}(h:i<v.length):(v.map (up d)).getD i 0=up d (v.getD i 0):=by
  simp[List.getD_eq_getElem?_getD,h]
def sm (h:Hd) (row:List Int) (x i:Nat):Int:=cL row (x*(parts h.ak).toNat*h.dep.toNat+i*h.dep.toNat) h.dep.toNat
def js(h:Hd)(row:List Int)(x:Nat):(aM h row x).length=(parts h.ak).toNat:=by simp[aM]
def EA{h:Hd}{row:List Int}{x i:Nat}(hi:i<(parts h.ak).toNat):(aM h row x).getD i 0=sm h row x i:=by simp[aM,sm,hi,List.getD_eq_getElem?_getD]
def lS{h:Hd}{row:List Int}{x:Nat}:∀y∈aM h row x,0≤y∧y<2^h.dep.toNat:=fun y hy=>by
  unfold aM at hy
  obtain⟨i,_,rfl⟩:=List.mem_map.1 hy
  exact n5 _ _ _
def bu (S:List Int) (i:Nat):List Int:=S.take i++List.replicate (4-i) 0
def lK{S:List Int}{i:Nat}(h:i≤S.length)(h4:S.length≤4):(bu S i).length=4:=by simp[bu];omega
def UE{S:List Int}{i:Nat}(h:i<S.length)(h4:S.length≤4):(bu S i).set i (S.getD i 0)=bu S (i+1):=by
  unfold bu
  have hl:(S.take i).length=i:=by rw[List.length_take];omega
  rw[show 4-i=(4-(i+1))+1 by omega,List.replicate_succ,tR hl,List.take_add_one,List.append_assoc]
  congr 1
  simp[h,List.getD_eq_getElem?_getD]
def Rw{S:List Int}{i:Nat}(h:i<S.length):(bu S S.length).getD i 0=S.getD i 0:=by
  unfold bu
  rw[List.take_length,List.getD_eq_getElem?_getD,List.getD_eq_getElem?_getD,List.getElem?_append_left h]
def ky (h:Hd) (tr S:List Int) (i:Nat):Bool:=decide (0<tr.length)&&(List.range i).all fun j=>decide ((tr.getD (2*j) 0*256+tr.getD (2*j+1) 0)%2^h.dep.toNat=S.getD j 0)
def acF(h:Hd)(tr S:List Int):ky h tr S 0=decide (0<tr.length):=by simp[ky]
def abW{h:Hd}{tr S:List Int}{i:Nat}(hk:ky h tr S i=true):ky h tr S (i+1)=decide ((tr.getD (2*i) 0*256+tr.getD (2*i+1) 0)%2^h.dep.toNat=S.getD i 0):=by
  unfold ky at hk ⊢
  rw[List.range_succ,List.all_append]
  simp only[Bool.and_eq_true] at hk
  rw[hk.1,hk.2]
  simp
def ab1{h:Hd}{tr S:List Int}{i:Nat}(hk:ky h tr S i=false):∀ {m:Nat},i≤m→ky h tr S m=false
  |m,hm=>by
    unfold ky at hk ⊢
    rw[Bool.and_eq_false_iff] at hk ⊢
    rcases hk with hk|hk
    · exact .inl hk
    · refine .inr ?_
      rw[List.all_eq_false] at hk ⊢
      obtain⟨x,hx,e⟩:=hk
      exact⟨x,by rw[List.mem_range] at hx ⊢;omega,e⟩
def I9{f:Fl}(hf:fm f){S:List Int}(hS:S.length=(parts f.hd.ak).toNat)(h3:¬f.hd.ak=3):ky f.hd f.trns S (parts f.hd.ak).toNat=decide (0<(bd f.hd f.trns).length∧S=bd f.hd f.trns):=by
  obtain⟨hd,_,_,_,_,h0,h2,h46,_⟩:=hf
  have hp:=fJ hd
  by_cases hc:f.hd.ak=0∨f.hd.ak=2
  · by_cases ht:0<f.trns.length
    · have hl:f.trns.length/2=(parts f.hd.ak).toNat:=omg
      have hcl:=C4 hc hl
      rw[Bool.eq_iff_iff,decide_eq_true_iff,hcl]
      unfold ky
      simp only[Bool.and_eq_true,decide_eq_true_iff,List.all_eq_true,List.mem_range]
      constructor
      · rintro⟨_,h⟩
        refine⟨omg,List.ext_getElem (by rw[hS,hcl]) fun j h1 h2'=>?_⟩
        have:=h j omg
        rw[List.getD_eq_getElem?_getD (l:=S),List.getElem?_eq_getElem h1] at this
        simp only[Option.getD_some] at this
        rw[←this]
        unfold bd
        simp[hc]
      · rintro⟨_,e⟩
        refine⟨ht,fun j hj=>?_⟩
        rw[e]
        unfold bd
        rw[if_pos hc,List.getD_eq_getElem?_getD (l:=List.map _ _)]
        simp[hl,hj]
    · have hz:f.trns=[]:=List.length_eq_zero_iff.1 omg
      rw[hz,uk]
      simp[ky]
  · have hz:f.trns=[]:=h46 omg
    rw[hz,uk]
    simp[ky]
def I5{f:Fl}(hf:fm f)(v:List Int)(h:f.hd.ak=4∨f.hd.ak=6):oS f v=(v.map (up f.hd.dep)).getD (v.length-1) 0:=by
  unfold oS
  rw[hf.2.2.2.2.2.2.2.1 h,uk,if_neg (fun q=>absurd q.1 dec),if_pos h,List.length_map]
def Gm{f:Fl}{v:List Int}(h:¬(f.hd.ak=4∨f.hd.ak=6)){b:Bool}(hb:b=decide (0<(bd f.hd f.trns).length∧v=bd f.hd f.trns)):oS f v=if b then 0 else 65535:=by
  unfold oS
  rw[hb]
  by_cases q:0<(bd f.hd f.trns).length∧v=bd f.hd f.trns
  · rw[if_pos q,decide_eq_true q,if_pos rfl]
  · rw[if_neg q,decide_eq_false q,if_neg h,if_neg dec]
def O7{w bits:Int}{x:Nat}{n:Nat}(hx:(x:Int)<w)(hb:0≤bits)(hn:(n:Int)=eC w bits):(x:Int)*bits+bits≤8*n:=by
  rw[hn]
  unfold eC
  have h1:((x:Int)+1)*bits≤w*bits:=Int.mul_le_mul_of_nonneg_right omg hb
  rw[Int.add_mul,Int.one_mul] at h1
  omega
def Ae{f:Fl}(hf:fm f)(h3:f.hd.ak=3)(k:Nat):(f.plte.length:Int)≤3*(k:Int)↔f.plte.length/3≤k:=by
  have:=hf.2.2.2.2.2.2.2.2 h3
  omega
end Go.aa
namespace Go.aa
open Go.ag Go.Sl
def fN{l:List Int}{i:Nat}(h:i<l.length):l.getD i 0∈l:=by
  rw[List.getD_eq_getElem?_getD,List.getElem?_eq_getElem h]
  exact List.getElem_mem h
def vS{a b c d a' b' c' d':Int}(h:some [a,b,c,d]=some [a',b',c',d']):a=a'∧b=b'∧c=c'∧d=d':=by
  simpa using h
def RX{h:Hd}{row:List Int}{x N D i:Nat}(hN:N=(parts h.ak).toNat)(hD:D=h.dep.toNat)(hi:i<N)(h4:N≤4):(bu (aM h row x) i).set ((i:Int)).toNat (cL row (x*N*D+i*D) D)=bu (aM h row x) (i+1):=by
  subst hN;subst hD
  have e:=EA (h:=h) (row:=row) (x:=x) hi
  unfold sm at e
  rw[←e,show((i:Int)).toNat=i from rfl]
  exact UE (by rw[js];exact hi) (by rw[js];exact h4)
def jL{h:Hd}{row:List Int}{x N i:Nat}(hN:N=(parts h.ak).toNat)(hi:i<N):(bu (aM h row x) N).getD i 0=(aM h row x).getD i 0:=by
  have hl:=js h row x
  subst hN
  rw[←hl]
  exact Rw (by rw[hl];exact hi)
def YN(h:Hd)(tr S:List Int):ky h tr S 0=decide (0<(tr.length:Int)):=by rw[acF];exact decide_eq_decide.2 omg
def Vm{h:Hd}{tr S:List Int}{i:Nat}(hk:ky h tr S i=true):0<tr.length:=by
  unfold ky at hk
  simp only[Bool.and_eq_true,decide_eq_true_iff] at hk
  exact hk.1
def tf(b:Bool):b=true∨b=false:=by cases b<;>simp
def d11(i N:Nat)(b:Bool)(c:Int):¬i<N∨(i<N∧b=false)∨(i<N∧b=true∧c=3)∨(i<N∧b=true∧¬c=3):=by cases b<;>simp<;>omega
def d17{c p:Int}(h:(c=0∧p=1)∨(c=2∧p=3)∨(c=3∧p=1)∨(c=4∧p=2)∨(c=6∧p=4)):(c=0∧p=1)∨(¬c=0∧c=2∧p=3)∨(¬c=0∧¬c=2∧c=4∧p=2)∨(¬c=0∧¬c=2∧¬c=4∧c=6∧p=4)∨(¬c=0∧¬c=2∧¬c=4∧¬c=6∧c=3∧p=1):=omg
end Go.aa
namespace Go.aa
open Go.ag Go.Sl
def yl(f:Fl)(v:List Int):gB f v=none∨∃a b c d,gB f v=some [a,b,c,d]:=by
  by_cases h3:f.hd.ak=3
  · rw[sr h3]
    unfold vt
    split
    · exact .inl rfl
    · exact .inr ⟨_,_,_,_,rfl⟩
  · rw[wS h3]
    split
    · exact .inr ⟨_,_,_,_,rfl⟩
    · exact .inr ⟨_,_,_,_,rfl⟩
def vN (S old:List Int) (k:Nat):List Int:=S.take k++old.drop k
def abI(S old:List Int):vN S old 0=old:=rfl
def S3{S old:List Int}{k:Nat}(h:S.length=old.length)(hk:k≤S.length):(vN S old k).length=S.length:=by simp[vN];omega
def T5{S old:List Int}(h:S.length=old.length):vN S old S.length=S:=by
  unfold vN
  rw[List.take_length,List.drop_eq_nil_of_le omg,List.append_nil]
def acO{S old:List Int}{k:Nat}(h:S.length=old.length)(hk:k<S.length):(vN S old k).set k (S.getD k 0)=vN S old (k+1):=by
  unfold vN
  have hl:(S.take k).length=k:=by rw[List.length_take];omega
  rw[List.drop_eq_getElem_cons (show k<old.length by omega),tR hl,List.take_add_one,List.append_assoc]
  congr 1
  simp[hk,List.getD_eq_getElem?_getD]
def acK{h:Hd}{row old:List Int}{x N D k:Nat}(hN:N=(parts h.ak).toNat)(hD:D=h.dep.toNat)(ho:old.length=N)(hk:k<N):(vN (aM h row x) old k).set ((k:Int)).toNat (cL row (x*N*D+k*D) D)=vN (aM h row x) old (k+1):=by
  subst hN;subst hD
  have e:=EA (h:=h) (row:=row) (x:=x) hk
  unfold sm at e
  rw[←e,show((k:Int)).toNat=k from rfl]
  exact acO (by rw[js,ho]) (by rw[js];exact hk)
def j6 (p:Ps) (w h:Int):Prop:=jt p∧(∀k:Int,0≤k→k<p.w→p.x+k*p.dx<w)∧∀k:Int,0≤k→k<p.h→p.y+k*p.dy<h
def Sq{x y dx dy w h:Int}(hx:0≤x∧x≤8)(hy:0≤y∧y≤8)(hdx:dx=1∨dx=2∨dx=4∨dx=8)(hdy:dy=1∨dy=2∨dy=4∨dy=8)(hw:0≤w∧w≤256)(hh:0≤h∧h≤256):j6 (pK x y dx dy w h) w h:=
  ⟨HZ hx hy hdx hdy hw hh,fun k h0 hk=>(pZ hdx h0).2 hk,fun k h0 hk=>(pZ hdy h0).2 hk⟩
def yE{w h:Int}(hw:0≤w∧w≤256)(hh:0≤h∧h≤256):∀p∈fq w h,j6 p w h:=fun p hp=>by
  have hm:=(List.mem_filter.1 hp).1
  unfold jb at hm
  simp only[List.mem_cons,List.not_mem_nil,or_false] at hm
  rcases hm with rfl|rfl|rfl|rfl|rfl|rfl|rfl<;>exact Sq dec dec dec dec hw hh
def Ag{w h:Int}(hw:0≤w∧w≤256)(hh:0≤h∧h≤256):∀p∈whole w h,j6 p w h:=fun p hp=>by
  have:=(Ci hw hh).1 p hp
  unfold whole at hp
  rw[List.mem_singleton.1 hp] at this ⊢
  exact⟨this,fun k h0 hk=>by show 0+k*1<w;have:k<w:=hk;omega,fun k h0 hk=>by show 0+k*1<h;have:k<h:=hk;omega⟩
section
variable {f:Fl} {p:Ps} {y:Int} {row:List Int} {i:Nat} {P:List Int} {r:Option (List Int)}
def Ih(hi:(i:Int)<p.w)(hpx:gB f (aM f.hd row i)=none)(h:fP f p y row (p.w.toNat-i) i P=r):r=none:=by
  rw[show p.w.toNat-i=(p.w.toNat-(i+1))+1 by omega,fP,hpx] at h
  exact h.symm
def H6{c:List Int}(hi:(i:Int)<p.w)(hpx:gB f (aM f.hd row i)=some c)(h:fP f p y row (p.w.toNat-i) i P=r):fP f p y row (p.w.toNat-(i+1)) (i+1) (ko f.hd.w P (p.x+i*p.dx) (p.y+y*p.dy) c)=r:=by
  rw[show p.w.toNat-i=(p.w.toNat-(i+1))+1 by omega,fP,hpx] at h
  exact h
def Gq(hi:¬(i:Int)<p.w)(h:fP f p y row (p.w.toNat-i) i P=r):r=some P:=by
  rw[show p.w.toNat-i=0 by omega,fP] at h
  exact h.symm
def A5:∀ {k i:Nat} {P P2:List Int} {n:Nat},P.length=n→(∀j:Nat,i≤j→j<i+k→(4*((p.y+y*p.dy)*f.hd.w+(p.x+j*p.dx))).toNat+4≤n)→fP f p y row k i P=some P2→P2.length=n
  |0,i,P,P2,n,hP,_,h=>by rw[fP] at h;cases h;exact hP
  |k+1,i,P,P2,n,hP,hb,h=>by
    rw[fP] at h
    split at h
    · cases h
    · rename_i c hc
      have hc4:c.length=4:=by
        rcases yl f (aM f.hd row i) with e|⟨a,b,c',d,e⟩
        · rw[e] at hc;cases hc
        · rw[e] at hc;cases hc;rfl
      exact A5 (by rw[uS hc4 (by rw[hP];exact hb i (Nat.le_refl _) omg)];exact hP) (fun j h1 h2=>hb j omg omg) h
end
section
variable {f:Fl} {D:List Int} {n back:Nat} {p:Ps} {y a:Nat} {A P:List Int} {r:Option (Nat×List Int)}
def CN(hy:(y:Int)<p.h)(hk:4<D.getD a 0)(h:ez f D n back p (p.h.toNat-y) y a A P=r):r=none:=by
  rw[show p.h.toNat-y=(p.h.toNat-(y+1))+1 by omega,ez,if_pos hk] at h
  exact h.symm
def D7(hy:(y:Int)<p.h)(hk:¬4<D.getD a 0)(hr:fP f p y (ee (D.getD a 0) ((D.drop (a+1)).take n) A back) p.w.toNat 0 P=none)(h:ez f D n back p (p.h.toNat-y) y a A P=r):r=none:=by
  rw[show p.h.toNat-y=(p.h.toNat-(y+1))+1 by omega,ez,if_neg hk,hr] at h
  exact h.symm
def DA{P2:List Int}(hy:(y:Int)<p.h)(hk:¬4<D.getD a 0)(hr:fP f p y (ee (D.getD a 0) ((D.drop (a+1)).take n) A back) p.w.toNat 0 P=some P2)(h:ez f D n back p (p.h.toNat-y) y a A P=r):ez f D n back p (p.h.toNat-(y+1)) (y+1) (a+1+n) (ee (D.getD a 0) ((D.drop (a+1)).take n) A back) P2=r:=by
  rw[show p.h.toNat-y=(p.h.toNat-(y+1))+1 by omega,ez,if_neg hk,hr] at h
  exact h
def Ez(hy:¬(y:Int)<p.h)(h:ez f D n back p (p.h.toNat-y) y a A P=r):r=some (a,P):=by
  rw[show p.h.toNat-y=0 by omega,ez] at h
  exact h.symm
def Yt(f:Fl)(D:List Int)(n back:Nat)(p:Ps)(y a:Nat)(A P:List Int):4<D.getD a 0∨(¬4<D.getD a 0∧fP f p y (ee (D.getD a 0) ((D.drop (a+1)).take n) A back) p.w.toNat 0 P=none)∨(¬4<D.getD a 0∧∃P2,fP f p y (ee (D.getD a 0) ((D.drop (a+1)).take n) A back) p.w.toNat 0 P=some P2):=by
  by_cases h:4<D.getD a 0
  · exact .inl h
  · cases hr:fP f p y (ee (D.getD a 0) ((D.drop (a+1)).take n) A back) p.w.toNat 0 P with
    |none=>exact .inr (.inl ⟨h,rfl⟩)
    |some P2=>exact .inr (.inr ⟨h,P2,rfl⟩)
end
def Hw(x:Int):(if 1<x then x else 1)=max 1 x:=by split<;>omega
def oh(kind:Int)(row above:List Int)(back:Nat):aq (ee kind row above back):=rQ kind row above back row.length
def mT (bits:Int) (l:List Ps):Nat:=(l.map fun p=>p.h.toNat*(1+(eC p.w bits).toNat)).sum
def IM(bits:Int)(p:Ps)(l:List Ps):mT bits (p::l)=p.h.toNat*(1+(eC p.w bits).toNat)+mT bits l:=by simp[mT]
def wL{bits:Int}(hb:0≤bits∧bits≤64):∀ {l:List Ps},(∀p∈l,jt p∧0<p.w)→(mT bits l:Int)=eJ l bits
  |[],_=>rfl
  |p::l,h=>by
    have ih:=wL hb (fun q hq=>h q (List.mem_cons_of_mem _ hq))
    obtain⟨ho,hw⟩:=h p (List.mem_cons_self ..)
    obtain⟨_,_,_,_,_,_,hw0,hw1,hh0,hh1⟩:=ho
    have hr:=mR ⟨hw0,hw1⟩ hb
    rw[IM]
    unfold eJ at ih ⊢
    rw[List.map_cons,List.sum_cons,if_pos hw,←ih]
    push_cast
    rw[Int.toNat_of_nonneg hh0,Int.toNat_of_nonneg hr.2.2.1]
def KV{w h:Int}:∀p∈fq w h,0<p.w:=fun p hp=>by
  have:=(List.mem_filter.1 hp).2
  simp only[Bool.and_eq_true,decide_eq_true_eq] at this
  exact this.1
def Rf{w h:Int}(hw:0<w):∀p∈whole w h,0<p.w:=fun p hp=>by
  unfold whole at hp
  rw[List.mem_singleton.1 hp]
  exact hw
end Go.aa
namespace Go.aa
open Go.ag Go.Sl
def jc:aq []:=fun x hx=>by cases hx
def rq{h:Hd}{p:Ps}{nr:Nat}(hp:0≤parts h.ak)(hd:0≤h.dep)(hnr:(nr:Int)=eC p.w (parts h.ak*h.dep)):∀i:Nat,(i:Int)<p.w→i*(parts h.ak).toNat*h.dep.toNat+(parts h.ak).toNat*h.dep.toNat≤8*nr:=fun i hi=>by
  have hb:=O7 hi (Int.mul_nonneg hp hd) hnr
  have e1:((i*(parts h.ak).toNat*h.dep.toNat+(parts h.ak).toNat*h.dep.toNat:Nat):Int)=(i:Int)*(parts h.ak*h.dep)+parts h.ak*h.dep:=by
    push_cast
    rw[Int.toNat_of_nonneg hp,Int.toNat_of_nonneg hd,Int.mul_assoc]
  omega
end Go.aa
namespace Go.aa
open Go.ag Go.Sl
def jw{h:Hd}(hs:bD h.w h.h=0):(∀p∈aD h,j6 p h.w h.h∧jt p∧0<p.w)∧(aD h).length≤7:=by
  have hsd:=jj hs
  unfold aD
  cases h.aV with
  |true=>exact⟨fun p hp=>⟨yE omg omg p hp,(yE omg omg p hp).1,KV p hp⟩,(Iz omg omg).2⟩
  |false=>exact⟨fun p hp=>⟨Ag omg omg p hp,(Ag omg omg p hp).1,Rf omg p hp⟩,(Ci omg omg).2⟩
def w8{h:Hd}(hl:h.aV=true):fq h.w h.h=aD h:=by unfold aD;rw[hl];rfl
def xn{h:Hd}(hl:h.aV=false):whole h.w h.h=aD h:=by unfold aD;rw[hl];rfl
def nt (f:Fl) (z:List Int×Int):r5×Int:=if z.2≠0 then(eN,z.2) else if(z.1.length:Int)<want f.hd then(eN,2) else match fy f z.1 (aD f.hd) 0 (kI f.hd) with|none=>(eN,4)|some cN=>(⟨f.hd.w,f.hd.h,cN⟩,0)
def Wm(f:Fl)(z:List Int×Int):(z.2≠0∧nt f z=(eN,z.2))∨(¬z.2≠0∧(z.1.length:Int)<want f.hd∧nt f z=(eN,2))∨(¬z.2≠0∧¬(z.1.length:Int)<want f.hd):=by
  by_cases h1:z.2≠0
  · exact .inl ⟨h1,if_pos h1⟩
  · by_cases h2:(z.1.length:Int)<want f.hd
    · exact .inr (.inl ⟨h1,h2,by unfold nt;rw[if_neg h1,if_pos h2]⟩)
    · exact .inr (.inr ⟨h1,h2⟩)
def zO{f:Fl}{z:List Int×Int}(h1:¬z.2≠0)(h2:¬(z.1.length:Int)<want f.hd)(h:fy f z.1 (aD f.hd) 0 (kI f.hd)=none):nt f z=(eN,4):=by unfold nt;rw[if_neg h1,if_neg h2,h]
def Fb{f:Fl}{z:List Int×Int}{cN:List Int}(h1:¬z.2≠0)(h2:¬(z.1.length:Int)<want f.hd)(h:fy f z.1 (aD f.hd) 0 (kI f.hd)=some cN):nt f z=(⟨f.hd.w,f.hd.h,cN⟩,0):=by unfold nt;rw[if_neg h1,if_neg h2,h]
def yU{h:Hd}(hs:bD h.w h.h=0)(hd:deep h.ak h.dep):(mT (bitsOf h) (aD h):Int)=want h:=by
  have hb:=l7 hd
  exact wL ⟨by unfold bitsOf;omega,by unfold bitsOf;omega⟩ (fun p hp=>⟨((jw hs).1 p hp).2.1,((jw hs).1 p hp).2.2⟩)
def DB{h:Hd}(hs:bD h.w h.h=0)(hd:deep h.ak h.dep):0≤want h∧want h<500000000:=by
  have hb:=l7 hd
  have h1:=sw (l:=aD h) (bits:=bitsOf h) ⟨by unfold bitsOf;omega,by unfold bitsOf;omega⟩ (fun p hp=>((jw hs).1 p hp).2.1)
  have h7:=(jw hs).2
  unfold want
  omega
def ye{l:List Ps}{i:Nat}(h:i<l.length):l.drop i=l.getD i ⟨0,0,0,0,0,0⟩::l.drop (i+1):=by
  rw[List.drop_eq_getElem_cons h,List.getD_eq_getElem?_getD,List.getElem?_eq_getElem h]
  rfl
def lf (h:Hd) (p:Ps):Nat:=(eC p.w (bitsOf h)).toNat
def nI (h:Hd):Nat:=(max 1 (bitsOf h/8)).toNat
def xw{h:Hd}{p:Ps}(hp:jt p)(hd:deep h.ak h.dep):(lf h p:Int)=eC p.w (parts h.ak*h.dep):=by
  have hb:=l7 hd
  obtain⟨_,_,_,_,_,_,hw0,hw1,_,_⟩:=hp
  have:=mR (w:=p.w) (bits:=parts h.ak*h.dep) ⟨hw0,hw1⟩ omg
  exact Int.toNat_of_nonneg this.2.2.1
def xS(h:Hd):(nI h:Int)=max 1 (parts h.ak*h.dep/8):=Int.toNat_of_nonneg (by unfold bitsOf;omega)
section
variable {f:Fl} {D:List Int} {l:List Ps} {i a:Nat} {P:List Int} {x:Ps} {r:Option (List Int)}
def Ba(hi:i<l.length)(hx:x=l.getD i ⟨0,0,0,0,0,0⟩)(hr:ez f D (lf f.hd x) (nI f.hd) x x.h.toNat 0 a [] P=none)(h:fy f D (l.drop i) a P=r):r=none:=by
  rw[ye hi,←hx,fy] at h
  unfold lf nI at hr
  rw[hr] at h
  exact h.symm
def Jq{a2:Nat}{P2:List Int}(hi:i<l.length)(hx:x=l.getD i ⟨0,0,0,0,0,0⟩)(hr:ez f D (lf f.hd x) (nI f.hd) x x.h.toNat 0 a [] P=some (a2,P2))(h:fy f D (l.drop i) a P=r):fy f D (l.drop (i+1)) a2 P2=r:=by
  rw[ye hi,←hx,fy] at h
  unfold lf nI at hr
  rw[hr] at h
  exact h
def IE(hi:¬i<l.length)(h:fy f D (l.drop i) a P=r):r=some P:=by
  rw[List.drop_eq_nil_of_le omg,fy] at h
  exact h.symm
def IX{bits:Int}(hi:i<l.length)(hx:x=l.getD i ⟨0,0,0,0,0,0⟩):mT bits (l.drop i)=x.h.toNat*(1+(eC x.w bits).toNat)+mT bits (l.drop (i+1)):=by rw[ye hi,←hx,IM]
def acp(o:Option (Nat×List Int)):o=none∨∃a P,o=some (a,P):=by
  match o with
  |none=>exact .inl rfl
  |some (a,P)=>exact .inr ⟨a,P,rfl⟩
end
inductive Pwx (B:List Int) (r:r5×Int):Prop
  |cut (e:Int) (h:aa.cut B=.error e) (hr:r=(eN,e))
  |ord (l:List Ch) (h:aa.cut B=.ok l) (ho:dH l=false) (hr:r=(eN,4))
  |head (l:List Ch) (h:aa.cut B=.ok l) (ho:dH l=true) (hh:eH (ed l)≠0) (hr:r=(eN,eH (ed l)))
  |tab1 (l:List Ch) (h:aa.cut B=.ok l) (ho:dH l=true) (hh:eH (ed l)=0) (ht:¬eZ (aH (ed l)) (bY l aR) (eM l aR)) (hr:r=(eN,4))
  |tab2 (l:List Ch) (h:aa.cut B=.ok l) (ho:dH l=true) (hh:eH (ed l)=0) (ht:eZ (aH (ed l)) (bY l aR) (eM l aR)) (hc:¬gK (aH (ed l)) (bY l aR) (bY l ba) (eM l ba)) (hr:r=(eN,4))
  |open_ (l:List Ch) (z:List Int×Int) (h:aa.cut B=.ok l) (ho:dH l=true) (hh:eH (ed l)=0) (ht:eZ (aH (ed l)) (bY l aR) (eM l aR)) (hc:gK (aH (ed l)) (bY l aR) (bY l ba) (eM l ba)) (hz:aC.nb (bS l) (want (aH (ed l))) z) (hr:r=nt (zk l) z)
def lg.Wu{B:List Int}{r:r5×Int}(h:lg B r):Pwx B r:=by
  rcases h.ways with⟨e,h1,h2⟩|⟨l,h1,h2,h3⟩|⟨l,h1,h2,h3,h4⟩|⟨l,h1,h2,h3,h4,h5⟩|⟨l,q,h1,h2,h3,h4,h5,h6⟩
  · exact .cut e h1 h2
  · exact .ord l h1 h2 h3
  · exact .head l h1 h2 h3 h4
  · by_cases ha:eZ (aH (ed l)) (bY l aR) (eM l aR)
    · exact .tab2 l h1 h2 h3 ha (fun q=>h4 ⟨ha,q⟩) h5
    · exact .tab1 l h1 h2 h3 ha h5
  · refine .open_ l q h1 h2 h3 h4.1 h4.2 h5 ?_
    rcases h6 with⟨a,b⟩|⟨a,b,c⟩|⟨a,b,c,d⟩|⟨cN,a,b,c,d⟩
    · rw[b];unfold nt;rw[if_pos a]
    · rw[c];unfold nt;rw[if_neg (fun q=>q a)];exact(if_pos b).symm
    · rw[d];exact(zO (fun q=>q a) (by show¬_<want (aH (ed l));omega) c).symm
    · rw[d];exact(Fb (f:=zk l) (fun q=>q a) (by show¬_<want (aH (ed l));omega) c).symm
def lB{B:List Int}(h:eH B=0):deep (aH B).ak (aH B).dep∧bD (aH B).w (aH B).h=0:=by
  rcases uy B with⟨_,e⟩|⟨_,_,e⟩|⟨_,_,_,e⟩|⟨_,_,_,_,e⟩|⟨_,_,_,_,_,e⟩|⟨_,_,_,_,_,_,e⟩|⟨_,_,_,_,_,_,_,e⟩|⟨_,h1,_,_,_,_,h2,_⟩
  all_goals first|(rw[h] at e;exact absurd e dec)|exact⟨h1,Classical.not_not.1 h2⟩
def CO{h:Hd}{pl tr:List Int}{has is:Bool}(hd:deep h.ak h.dep)(hB:aq pl)(hBt:aq tr)(hpl:pl.length<500000000)(htl:tr.length<500000000)(ha:eZ h pl has)(hc:gK h pl tr is)(h0:has=false→pl=[])(h1:is=false→tr=[]):fm ⟨h,pl,tr⟩:=by
  refine⟨hd,hB,hBt,hpl,htl,fun q=>?_,fun q=>?_,fun q=>?_,fun q=>?_⟩
  all_goals have q:_:=q
  · cases is with
    |false=>exact .inl (by rw[h1 rfl];rfl)
    |true=>have:=hc rfl;have q:h.ak=0:=q;show tr.length=0∨tr.length=2;omega
  · cases is with
    |false=>exact .inl (by rw[h1 rfl];rfl)
    |true=>have:=hc rfl;have q:h.ak=2:=q;show tr.length=0∨tr.length=6;omega
  · cases is with
    |false=>exact h1 rfl
    |true=>have:=hc rfl;have q:h.ak=4∨h.ak=6:=q;omega
  · have q:h.ak=3:=q
    cases has with
    |false=>exact absurd q ha
    |true=>exact ha.2.2.1
def DS(h:Hd):eJ (aD h) (parts h.ak*h.dep)=want h:=rfl
def AU{l:List Ps}{i:Nat}(h:i<l.length):l.getD i ⟨0,0,0,0,0,0⟩∈l:=by
  rw[List.getD_eq_getElem?_getD,List.getElem?_eq_getElem h]
  exact List.getElem_mem h
def wk{B:List Int}{mo:Int}{q:List Int×Int}(hB:aq B)(hm:mo<500000000)(h:aC.nb B mo q):aq q.1∧q.1.length<500000000:=by
  rcases h.ways hB hm with⟨_,rfl⟩|⟨_,_,rfl⟩|⟨e,_,_,_,_,rfl⟩|⟨x,n,_,_,_,_,_,_,_,rfl⟩|⟨x,n,_,_,_,_,_,_,_,rfl⟩|⟨x,n,_,_,_,_,_,_,_,_,rfl⟩|⟨x,n,_,_,_,h1,h2,_,_,_,rfl⟩
  · exact⟨jc,Nat.zero_lt_succ _⟩
  · exact⟨jc,Nat.zero_lt_succ _⟩
  · exact⟨jc,Nat.zero_lt_succ _⟩
  · exact⟨jc,Nat.zero_lt_succ _⟩
  · exact⟨jc,Nat.zero_lt_succ _⟩
  · exact⟨jc,Nat.zero_lt_succ _⟩
  · exact⟨h1,h2⟩
end Go.aa
namespace Go.aa
open Go.ag Go.Sl
def K9{L:List Int}{e:Int}(h:first L=.error e):e≠0:=by
  unfold first at h
  split at h
  · cases h;decide
  · split at h
    · cases h;decide
    · split at h
      · cases h;decide
      · split at h
        · cases h
        · cases h;decide
def CE:∀ {f:Nat} {L:List Int} {a:List Ch} {e:Int},gi f L a=.error e→e≠0
  |0,L,a,e,h=>by rw[gi] at h;cases h;decide
  |f+1,L,a,e,h=>by
    rw[gi] at h
    split at h
    · rename_i e' he;cases h;exact K9 he
    · split at h
      · split at h
        · cases h
        · cases h;decide
      · exact CE h
def xd{B:List Int}{e:Int}(h:cut B=.error e):e≠0:=by
  unfold cut at h
  split at h
  · cases h;decide
  · split at h
    · cases h;decide
    · split at h
      · exact CE h
      · cases h;decide
def hG{l:List Ch}(h:∀c∈l,aq c.d)(k:List Int):aq (bY l k):=by
  unfold bY
  split
  · rename_i c hc;exact h c (List.mem_of_find?_eq_some hc)
  · exact jc
def HL{l:List Ch}{h:Hd}{P T:List Int}(h1:h=aH (ed l))(h2:P=bY l aR)(h3:T=bY l ba):zk l=⟨h,P,T⟩:=by subst h1;subst h2;subst h3;rfl
end Go.aa
namespace Go.aa
open Go.ag Go.Sl
def SX{L:List Ch}{i:Nat}{x:Ch}(h:L[i]?=some x):cD (L.take (i+1))=cD (L.take i)++iI x:=by
  rw[kP h]
  unfold cD j9
  rw[List.flatMap_append,List.append_assoc]
  simp
def join_le(L:List Ch)(i:Nat):(cD (L.take i)).length≤(cD L).length:=by
  conv=>rhs;rw[←List.take_append_drop i L]
  unfold cD j9
  rw[List.flatMap_append]
  simp only[List.length_append]
  omega
def Wa(L:List Ch):cD (L.take 0)=fx:=by unfold cD j9;simp
def Vf{J k d:List Int}{n s:Int}(hn:n=(d.length:Int))(hs:s=gQ k d):J++[n/16777216%256,n/65536%256,n/256%256,n%256]++k++d++[s/16777216%256,s/65536%256,s/256%256,s%256]=J++iI ⟨k,d⟩:=by
  subst hn;subst hs
  unfold iI qo
  simp only[List.append_assoc]
def K5(x:Ch):(iI x).length=4+x.k.length+x.d.length+4:=by
  unfold iI
  simp only[List.length_append,Dx]
  omega
def U9(P:List Int)(W y:Nat):dg P W y++[0]++two ((P.drop (4*W*y)).take (4*W))=dg P W (y+1):=by
  rw[dg,jx,List.append_assoc];rfl
def YE{l:List Int}{i:Nat}(h:i<l.length):two (l.take i)++[l.getD i 0/256,l.getD i 0%256]=two (l.take (i+1)):=by
  rw[List.take_add_one]
  unfold two
  rw[List.flatMap_append]
  congr 1
  simp[h,List.getD_eq_getElem?_getD]
def RQ:lg [] (eN,2):=by
  unfold lg cut
  rfl
def Gk:Sz [0,0,7,65535] 1 1:=⟨by decide,by decide,by decide,rfl,fun x hx=>by
  simp only[List.mem_cons,List.not_mem_nil,or_false] at hx
  rcases hx with rfl|rfl|rfl|rfl<;>decide⟩
end Go.aa
namespace Go.aa
open Go.ag Go.Sl
def GX{P:List Int}{W H y i:Nat}(hP:P.length=4*W*H)(hy:y<H)(hi:i<4*W):((P.drop (4*W*y)).take (4*W)).length=4*W∧((P.drop (4*W*y)).take (4*W)).getD i 0=P.getD (4*W*y+i) 0∧4*W*y+i<P.length:=by
  have:4*W*(y+1)≤4*W*H:=Nat.mul_le_mul_left _ hy
  rw[Nat.mul_succ] at this
  refine⟨by rw[List.length_take,List.length_drop];omega,?_,omg⟩
  rw[List.getD_eq_getElem?_getD,List.getD_eq_getElem?_getD,List.getElem?_take,if_pos hi,List.getElem?_drop]
def D5{P:List Int}{W H y:Nat}(s:Sz P W H)(hy:y≤H):(dg P W y).length≤131328:=by
  obtain⟨r,h⟩:=vq P W y (H-y)
  have h2:=qM s
  rw[show y+(H-y)=H by omega] at h
  rw[h,List.length_append] at h2
  omega
def ld (P:List Int) (W y i:Nat):List Int:=dg P W y++[0]++two (((P.drop (4*W*y)).take (4*W)).take i)
def IZ(P:List Int)(W y:Nat):dg P W y++[0]=ld P W y 0:=by unfold ld;simp[two]
def Uf{P:List Int}{W H y i:Nat}(hP:P.length=4*W*H)(hy:y<H)(hi:i<4*W):ld P W y i++[P.getD (4*W*y+i) 0/256,P.getD (4*W*y+i) 0%256]=ld P W y (i+1):=by
  obtain⟨h1,h2,_⟩:=GX hP hy hi
  unfold ld
  rw[←h2,List.append_assoc,YE omg]
def R9{P:List Int}{W H y:Nat}(hP:P.length=4*W*H)(hy:y<H):ld P W y (4*W)=dg P W (y+1):=by
  unfold ld
  rw[List.take_of_length_le (Nat.le_trans (List.length_take_le _ _) (Nat.le_refl _))]
  exact U9 P W y
def RI{P:List Int}{W H y i:Nat}(s:Sz P W H)(hy:y≤H)(hi:i≤4*W):(ld P W y i).length≤140000:=by
  have h1:=D5 s hy
  have h2:=s.w.2
  unfold ld
  simp only[List.length_append,Em,List.length_take,List.length_cons,List.length_nil]
  omega
def abP{P:List Int}{W H:Nat}(s:Sz P W H):P.length≤65536:=by
  have h1:=s.len
  have h2:=s.wh
  rw[Nat.mul_assoc] at h1
  omega
def Xm{p:Ps}{w h:Int}(hp:j6 p w h){y j:Nat}(hy:(y:Int)<p.h)(hj:(j:Int)<p.w):(4*((p.y+y*p.dy)*w+(p.x+j*p.dx))).toNat+4≤(4*w*h).toNat:=by
  have hX:=hp.2.1 j omg hj
  have hY:=hp.2.2 y omg hy
  obtain⟨x0,_,y0,_,hdx,hdy,_⟩:=hp.1
  have hjx:0≤(j:Int)*p.dx:=by rcases hdx with e|e|e|e<;>rw[e]<;>omega
  have hyy:0≤(y:Int)*p.dy:=by rcases hdy with e|e|e|e<;>rw[e]<;>omega
  have:=qc (w:=w) (h:=h) (x:=p.x+j*p.dx) (y:=p.y+y*p.dy) ⟨omg,hX⟩ ⟨omg,hY⟩
  have e:4*w*h=4*(w*h):=Int.mul_assoc _ _ _
  omega
def yA{f:Fl}{D:List Int}{n back:Nat}{p:Ps}(hp:j6 p f.hd.w f.hd.h):∀ {k y a:Nat} {A P:List Int} {a2:Nat} {P2:List Int},P.length=(4*f.hd.w*f.hd.h).toNat→((y+k:Nat):Int)≤p.h→ez f D n back p k y a A P=some (a2,P2)→P2.length=(4*f.hd.w*f.hd.h).toNat
  |0,y,a,A,P,a2,P2,hP,hk,h=>by rw[ez] at h;cases h;exact hP
  |k+1,y,a,A,P,a2,P2,hP,hk,h=>by
    rw[ez] at h
    split at h
    · cases h
    · split at h
      · cases h
      · rename_i P3 h3
        exact yA hp (A5 hP (fun j _ hj=>Xm hp omg omg) h3) omg h
def yY{f:Fl}{D:List Int}:∀ {l:List Ps} {a:Nat} {P P2:List Int},(∀p∈l,j6 p f.hd.w f.hd.h)→P.length=(4*f.hd.w*f.hd.h).toNat→fy f D l a P=some P2→P2.length=(4*f.hd.w*f.hd.h).toNat
  |[],a,P,P2,_,hP,h=>by rw[fy] at h;cases h;exact hP
  |p::l,a,P,P2,hl,hP,h=>by
    rw[fy] at h
    split at h
    · cases h
    · rename_i a2 P3 h3
      have hp:=hl p (List.mem_cons_self ..)
      obtain⟨_,_,_,_,_,_,_,_,hh0,_⟩:=hp.1
      exact yY (fun q hq=>hl q (List.mem_cons_of_mem _ hq)) (yA hp hP omg h3) h
def Good (r:r5×Int):Prop:=(r.2≠0∧r.1=eN)∨(r.2=0∧bD r.1.w r.1.h=0∧(r.1.cN.length:Int)=4*r.1.w*r.1.h)
def Mn{w h e:Int}{L:List Int}(hg:Good (⟨w,h,L⟩,e)):(e≠0∧w=0∧h=0∧L.length=0)∨(e=0∧bD w h=0∧(L.length:Int)=4*w*h):=by
  rcases hg with⟨h1,h2⟩|⟨h1,h2,h3⟩
  · have e1:(⟨w,h,L⟩:r5)=eN:=h2
    unfold eN at e1
    cases e1
    exact .inl ⟨h1,rfl,rfl,rfl⟩
  · exact .inr ⟨h1,h2,h3⟩
def O1{w h e:Int}{L:List Int}(hg:Good (⟨w,h,L⟩,e)):L.length≤65536:=by
  rcases Mn hg with⟨_,_,_,h1⟩|⟨_,h1,h2⟩
  · omega
  · have:=oX h1
    omega
def lg.ac1{B:List Int}{r:r5×Int}(h:lg B r):Good r:=by
  rcases h.ways with⟨e,h1,h2⟩|⟨l,h1,h2,h3⟩|⟨l,h1,h2,h3,h4⟩|⟨l,h1,h2,h3,h4,h5⟩|⟨l,q,h1,h2,h3,h4,h5,h6⟩
  · exact .inl (by rw[h2];exact⟨xd h1,rfl⟩)
  · exact .inl (by rw[h3];exact⟨by decide,rfl⟩)
  · exact .inl (by rw[h4];exact⟨h3,rfl⟩)
  · exact .inl (by rw[h5];exact⟨by decide,rfl⟩)
  · rcases h6 with⟨a,b⟩|⟨a,b,c⟩|⟨a,b,c,d⟩|⟨cN,a,b,c,d⟩
    · exact .inl (by rw[b];exact⟨a,rfl⟩)
    · exact .inl (by rw[c];exact⟨by decide,rfl⟩)
    · exact .inl (by rw[d];exact⟨by decide,rfl⟩)
    · have hs:=(lB h3).2
      have hsd:=jj hs
      have hp0:0≤(aH (ed l)).w*(aH (ed l)).h:=Int.mul_nonneg omg omg
      have e:4*(aH (ed l)).w*(aH (ed l)).h=4*((aH (ed l)).w*(aH (ed l)).h):=Int.mul_assoc _ _ _
      have:=yY (f:=zk l) (fun p hp=>((jw hs).1 p hp).1) (by unfold kI;exact List.length_replicate) c
      rw[d]
      refine .inr ⟨rfl,hs,?_⟩
      show(cN.length:Int)=4*(aH (ed l)).w*(aH (ed l)).h
      rw[this]
      show((4*(aH (ed l)).w*(aH (ed l)).h).toNat:Int)=_
      omega
end Go.aa
namespace Go.Sl
abbrev I3:Ec Int:=aK 3 .i64
abbrev sV:Ec (Int×Int):=⟨279,2,fun x=>[.int .i64 x.1,.int .i64 x.2],(0,0),fun _=>rfl,fun _=>rfl⟩
structure Cv where
  p1:Option Addr
  c1:Nat
  p2:Option Addr
  c2:Nat
def HC (b:Nat) (ls:List Int):ad:=fun w0 h=>∃i:Cv,True∧cY w0 [ai b 275 (CA [.slice i.p1 ls.length i.c1] .i64 (ae.bV ls) [.slice i.p2 (ae.ord ls).length i.c2,.int .i64 (ae.cU ls)]),Row sV i.p1 ls.length i.c1 (ae.words ls),Row I3 i.p2 (ae.ord ls).length i.c2 (ae.ord ls)] h
def rD{b c1 c2:Nat}{p1 p2:Option Addr}{ls:List Int}{ws:List (Int×Int)}{w0:World}{h:Hp}(e:ws=ae.words ls)
    (hh:cY w0 [ai b 275 (CA [.slice p1 ls.length c1] .i64 (ae.bV ls) [.slice p2 (ae.ord ls).length c2,.int .i64 (ae.cU ls)]),Row sV p1 ls.length c1 ws,Row I3 p2 (ae.ord ls).length c2 (ae.ord ls)] h):HC b ls w0 h:=by
  subst e;exact⟨⟨p1,c1,p2,c2⟩,trivial,hh⟩
end Go.Sl
namespace Go.Sl
def RC (b:Nat) (ls:List Int):ad:=fun w0 h=>∃i:Cv,True∧cY w0 [ai b 231 (CA [] .i64 (ae.bV ls) [.slice i.p1 (ae.ord ls).length i.c1,.slice i.p2 ls.length i.c2]),Row I3 i.p1 (ae.ord ls).length i.c1 (ae.ord ls),Row I3 i.p2 ls.length i.c2 ls] h
def lL{b c1 c2:Nat}{p1 p2:Option Addr}{ls:List Int}{w0:World}{h:Hp}
    (hh:cY w0 [ai b 231 (CA [] .i64 (ae.bV ls) [.slice p1 (ae.ord ls).length c1,.slice p2 ls.length c2]),Row I3 p1 (ae.ord ls).length c1 (ae.ord ls),Row I3 p2 ls.length c2 ls] h):RC b ls w0 h:=⟨⟨p1,c1,p2,c2⟩,trivial,hh⟩
end Go.Sl
namespace Go.Sl
abbrev U5:Ec Int:=aK 5 .u8
structure Lv where
  p1:Option Addr
  c1:Nat
  p2:Option Addr
  c2:Nat
def LW (b:Nat) (B:List Int) (at_:Nat) (out:List Int) (free:Int):ad:=fun w0 h=>∃i:Lv,True∧cY w0 [ai b 236 [.slice i.p1 B.length i.c1,.slice i.p2 out.length i.c2,.int .i64 (at_:Int),.int .i64 free],Row U5 i.p1 B.length i.c1 B,Row U5 i.p2 out.length i.c2 out] h
def rb{b at_:Nat}{p1 p2:Option Addr}{c1 c2:Nat}{B out:List Int}{free:Int}{w0:World}{h:Hp}
    (hh:cY w0 [ai b 236 [.slice p1 B.length c1,.slice p2 out.length c2,.int .i64 (at_:Int),.int .i64 free],Row U5 p1 B.length c1 B,Row U5 p2 out.length c2 out] h):LW b B at_ out free w0 h:=⟨⟨p1,c1,p2,c2⟩,trivial,hh⟩
def WB (b:Nat) (bs:List Int):ad:=fun w0 h=>∃i:List Int×Nat,(ag.Pk bs i.1 i.2∧i.2<8)∧cY w0 [LW b [] 0 i.1 (i.2:Int)] h
end Go.Sl
namespace Go.Sl
structure Mi where
  po:Option Addr
  co:Nat
def MS (b bl:Nat) (sz mo:Int) (li di:Value) (s:ab.St):ad:=fun w0 h=>∃i:Mi,True∧cY w0 [ai b 223 [.pointer (soz bl),.int .i64 sz,.int .i64 mo,.slice i.po s.out.length i.co,.bool s.ended,.int .i64 0,.int .i64 s.kind,.int .i64 (s.left:Int),.bool s.last,li,di,.int .i64 (s.ax:Int),.int .i64 (s.cm:Int)],Row U5 i.po s.out.length i.co s.out] h
def dL{b bl:Nat}{sz mo:Int}{li di:Value}{s:ab.St}{po:Option Addr}{co n:Nat}{w0:World}{h:Hp}(hn:n=s.out.length)
    (hh:cY w0 [ai b 223 [.pointer (soz bl),.int .i64 sz,.int .i64 mo,.slice po n co,.bool s.ended,.int .i64 0,.int .i64 s.kind,.int .i64 (s.left:Int),.bool s.last,li,di,.int .i64 (s.ax:Int),.int .i64 (s.cm:Int)],Row U5 po n co s.out] h):MS b bl sz mo li di s w0 h:=by
  subst hn;exact⟨⟨po,co⟩,trivial,hh⟩
def tM{b bl:Nat}{sz mo:Int}{li di:Value}{s:ab.St}{w0:World}{h:Hp}(hh:MS b bl sz mo li di s w0 h):∃i:Mi,True∧cY w0 [ai b 223 [.pointer (soz bl),.int .i64 sz,.int .i64 mo,.slice i.po s.out.length i.co,.bool s.ended,.int .i64 0,.int .i64 s.kind,.int .i64 (s.left:Int),.bool s.last,li,di,.int .i64 (s.ax:Int),.int .i64 (s.cm:Int)],Row U5 i.po s.out.length i.co s.out] h:=hh
structure Vx where
  v3:Value
  v4:Value
  v5:Value
  v6:Value
  v7:Value
  v8:Value
  v9:Value
  v10:Value
  v11:Value
  v12:Value
def MX (b bl:Nat) (sz mo:Int):ad:=fun w0 h=>∃i:Vx,True∧cY w0 [ai b 223 [.pointer (soz bl),.int .i64 sz,.int .i64 mo,i.v3,i.v4,i.v5,i.v6,i.v7,i.v8,i.v9,i.v10,i.v11,i.v12]] h
def cQ{b bl:Nat}{sz mo:Int}{v3 v4 v5 v6 v7 v8 v9 v10 v11 v12:Value}{w0:World}{h:Hp}
    (hh:cY w0 [ai b 223 [.pointer (soz bl),.int .i64 sz,.int .i64 mo,v3,v4,v5,v6,v7,v8,v9,v10,v11,v12]] h):MX b bl sz mo w0 h:=⟨⟨v3,v4,v5,v6,v7,v8,v9,v10,v11,v12⟩,trivial,hh⟩
def PE (e:Int) (ch:List PanicEntry):Prop:=(ch=ku 194 (.agg #[])∧e=2)∨(ch=ku 237 (.agg #[])∧e=4)∨(ch=ku 27 (.int .i64 e)∧e≠0)
def PE.no{e:Int}(h:e≠0):PE e (ku 27 (.int .i64 e)):=.inr (.inr ⟨rfl,h⟩)
def PE.end_:PE 2 (ku 194 (.agg #[])):=.inl ⟨rfl,rfl⟩
def PE.none_:PE 4 (ku 237 (.agg #[])):=.inr (.inl ⟨rfl,rfl⟩)
def iP {α:Type} (E:Except Int α) (R:α→Value→List ad→Prop) (Gx:List ad):Ending→List ad→Prop:=vR (fun v G=>∃x,E=.ok x∧R x v G) (fun ch G=>∃e,E=.error e∧PE e ch∧G=Gx)
section
variable {P:Program} {f:FuncId} {args:List Value} {Pre Gx:List ad} {α:Type} {E:Except Int α} {R:α→Value→List ad→Prop}
def aA.ok{x:α}(h:aA P f args Pre (iP E R Gx))(hE:E=.ok x):aA P f args Pre (aF (R x)):=h.mono fun e G h=>by
  rcases h with⟨v,rfl,x',h1,h2⟩|⟨ch,rfl,e',h1,_⟩
  · rw[hE] at h1;cases h1;exact⟨v,rfl,h2⟩
  · rw[hE] at h1;cases h1
def aA.err{e:Int}(h:aA P f args Pre (iP E R Gx))(hE:E=.error e):aA P f args Pre (uD fun ch G=>PE e ch∧G=Gx):=h.mono fun e' G h=>by
  rcases h with⟨v,rfl,x',h1,h2⟩|⟨ch,rfl,e',h1,h2⟩
  · rw[hE] at h1;cases h1
  · rw[hE] at h1;cases h1;exact⟨ch,rfl,h2⟩
variable {C:Ctx} {Q:QT} {En:Env} {L F G:List ad} {rs:Array ResultVar} {v:Value} {ch:List PanicEntry}
def lx{x:α}(hE:E=.ok x)(hr:k8 C rs En L v)(hR:R x v G)(hs:Sub L (G++F)):oQ C rs F (iP E R Gx) .ret En L:=⟨v,G,hr,.inl ⟨v,rfl,x,hE,hR⟩,hs⟩
def iH{x:α}(hE:E=.ok x)(hr:k8 C rs En L v)(hR:R x v G)(hs:Sub L (G++F)):oQ C rs F (iP E R Gx) .normal En L:=⟨v,G,hr,.inl ⟨v,rfl,x,hE,hR⟩,hs⟩
def ef{e:Int}(hE:E=.error e)(hp:PE e ch)(hs:Sub L (Gx++F)):oQ C rs F (iP E R Gx) (.panic ch) En L:=⟨Gx,.inr ⟨ch,rfl,e,hE,hp,rfl⟩,hs⟩
def mg{e:Int}(hE:E=.error e)(hp:PE e ch)(hs:Sub L (Gx++F)):∃G,iP E R Gx (.panicked ch) G∧Sub L (G++F):=⟨Gx,.inr ⟨ch,rfl,e,hE,hp,rfl⟩,hs⟩
end
def zg{M F:List ad}:Drop (M++F) F:=by
  induction M with
  |nil=>exact .refl
  |cons a M ih=>exact .skip ih
def Bo{a0:ad}{M F:List ad}:Drop (a0::(M++F)) F:=.skip zg
end Go.Sl
namespace Go.Proofs.YtmaiakpjgomnpaaGreat
open Go.Sl
def V.a194:gR Tryz.prog 194=some 0:=by kernel_rfl
def V.a229:gR Tryz.prog 229=some 16:=by kernel_rfl
def V.acm:gR Tryz.prog 237=some 0:=by kernel_rfl
def V.Sk:gR Tryz.prog 246=some 2:=by kernel_rfl
def V.ace:gR Tryz.prog 279=some 2:=by kernel_rfl
def V.j0:jP Tryz.prog 229=some (16,3,1):=by kernel_rfl
def V.FU:jP Tryz.prog 246=some (2,3,1):=by kernel_rfl
def V.acA:az Tryz.prog 103=true:=by kernel_rfl
def V.Tw:az Tryz.prog 118=true:=by kernel_rfl
def V.ab8:az Tryz.prog 119=true:=by kernel_rfl
def V.yc:az Tryz.prog 122=true:=by kernel_rfl
def V.Vr:az Tryz.prog 123=true:=by kernel_rfl
def V.ab0:az Tryz.prog 124=true:=by kernel_rfl
def V.Ff:az Tryz.prog 125=true:=by kernel_rfl
def V.Sw:az Tryz.prog 126=true:=by kernel_rfl
def V.Aj:az Tryz.prog 127=true:=by kernel_rfl
def V.FO:az Tryz.prog 128=true:=by kernel_rfl
def V.acL:az Tryz.prog 135=true:=by kernel_rfl
def V.U3:az Tryz.prog 145=true:=by kernel_rfl
def V.xP:az Tryz.prog 146=true:=by kernel_rfl
def V.abQ:az Tryz.prog 147=true:=by kernel_rfl
def V.Tv:az Tryz.prog 148=true:=by kernel_rfl
def V.Tu:az Tryz.prog 149=true:=by kernel_rfl
def V.W7:az Tryz.prog 150=true:=by kernel_rfl
def V.acb:az Tryz.prog 153=true:=by kernel_rfl
def V.pP:az Tryz.prog 154=true:=by kernel_rfl
def V.xQ:az Tryz.prog 155=true:=by kernel_rfl
def V.UJ:az Tryz.prog 156=true:=by kernel_rfl
def V.R6:az Tryz.prog 157=true:=by kernel_rfl
def V.ack:az Tryz.prog 160=true:=by kernel_rfl
def V.acq:az Tryz.prog 166=true:=by kernel_rfl
def V.Sv:az Tryz.prog 167=true:=by kernel_rfl
def V.UT:az Tryz.prog 168=true:=by kernel_rfl
def V.V2:az Tryz.prog 169=true:=by kernel_rfl
def V.abN:az Tryz.prog 170=true:=by kernel_rfl
def V.SR:az Tryz.prog 178=true:=by kernel_rfl
def V.yp:az Tryz.prog 179=true:=by kernel_rfl
def V.TB:az Tryz.prog 180=true:=by kernel_rfl
def V.U2:az Tryz.prog 181=true:=by kernel_rfl
def V.WA:az Tryz.prog 182=true:=by kernel_rfl
def V.fb:az Tryz.prog 183=true:=by kernel_rfl
def V.Wr:az Tryz.prog 195=true:=by kernel_rfl
def V.mF:az Tryz.prog 197=true:=by kernel_rfl
def V.acg:az Tryz.prog 198=true:=by kernel_rfl
def V.acX:az Tryz.prog 199=true:=by kernel_rfl
def V.UX:az Tryz.prog 200=true:=by kernel_rfl
def V.sZ:az Tryz.prog 201=true:=by kernel_rfl
def V.UA:az Tryz.prog 202=true:=by kernel_rfl
def V.Vy:az Tryz.prog 203=true:=by kernel_rfl
def V.acu:az Tryz.prog 204=true:=by kernel_rfl
def V.acB:az Tryz.prog 215=true:=by kernel_rfl
def V.ab7:az Tryz.prog 216=true:=by kernel_rfl
def V.abT:az Tryz.prog 217=true:=by kernel_rfl
def V.acV:az Tryz.prog 218=true:=by kernel_rfl
def V.FQ:az Tryz.prog 220=true:=by kernel_rfl
def V.pO:az Tryz.prog 221=true:=by kernel_rfl
def V.acM:az Tryz.prog 222=true:=by kernel_rfl
def V.TV:az Tryz.prog 223=true:=by kernel_rfl
def V.acW:az Tryz.prog 229=true:=by kernel_rfl
def V.Ut:az Tryz.prog 230=true:=by kernel_rfl
def V.Vj:az Tryz.prog 245=true:=by kernel_rfl
def V.FJ:az Tryz.prog 246=true:=by kernel_rfl
def V.abU:az Tryz.prog 253=true:=by kernel_rfl
def V.K8:az Tryz.prog 256=true:=by kernel_rfl
def V.NA:az Tryz.prog 63=true:=by kernel_rfl
def V.b88:az Tryz.prog 88=true:=by kernel_rfl
def V.lO:az Tryz.prog 89=true:=by kernel_rfl
def V.EH:az Tryz.prog 91=true:=by kernel_rfl
def V.Vc:az Tryz.prog 92=true:=by kernel_rfl
def V.EZ:oc Tryz.prog 194=true:=by kernel_rfl
def V.KQ:oc Tryz.prog 237=true:=by kernel_rfl
def V.GV:oc Tryz.prog 27=true:=by kernel_rfl
def V.H5:bo Tryz.prog 151 0=some 0:=by kernel_rfl
def V.sM:bo Tryz.prog 151 1=some 1:=by kernel_rfl
def V.adI:bo Tryz.prog 151 2=some 2:=by kernel_rfl
def V.adJ:bo Tryz.prog 151 3=some 3:=by kernel_rfl
def V.Ij:bo Tryz.prog 156 0=some 0:=by kernel_rfl
def V.Cq:bo Tryz.prog 156 2=some 2:=by kernel_rfl
def V.iC:bo Tryz.prog 223 0=some 0:=by kernel_rfl
def V.Ul:bo Tryz.prog 223 1=some 1:=by kernel_rfl
def V.xX:bo Tryz.prog 223 10=some 10:=by kernel_rfl
def V.ac3:bo Tryz.prog 223 11=some 11:=by kernel_rfl
def V.tU:bo Tryz.prog 223 12=some 12:=by kernel_rfl
def V.I7:bo Tryz.prog 223 2=some 2:=by kernel_rfl
def V.kK:bo Tryz.prog 223 3=some 3:=by kernel_rfl
def V.BY:bo Tryz.prog 223 4=some 4:=by kernel_rfl
def V.RW:bo Tryz.prog 223 5=some 5:=by kernel_rfl
def V.aeh:bo Tryz.prog 223 6=some 6:=by kernel_rfl
def V.aey:bo Tryz.prog 223 7=some 7:=by kernel_rfl
def V.adS:bo Tryz.prog 223 8=some 8:=by kernel_rfl
def V.BH:bo Tryz.prog 223 9=some 9:=by kernel_rfl
def V.tv:bo Tryz.prog 231 0=some 0:=by kernel_rfl
def V.ad6:bo Tryz.prog 231 1=some 16:=by kernel_rfl
def V.xu:bo Tryz.prog 231 2=some 17:=by kernel_rfl
def V.BJ:bo Tryz.prog 236 0=some 0:=by kernel_rfl
def V.adG:bo Tryz.prog 275 0=some 0:=by kernel_rfl
def V.AB:bo Tryz.prog 275 1=some 1:=by kernel_rfl
def V.W5:bo Tryz.prog 275 2=some 17:=by kernel_rfl
def V.adk:bo Tryz.prog 275 3=some 18:=by kernel_rfl
def V.mixed:Tryz.prog.follows .mixedOrders=true:=by kernel_rfl
def V.MF:eQ Tryz.prog 151=some [(0,1),(1,1),(2,1),(3,1)]:=by kernel_rfl
def V.XV:eQ Tryz.prog 156=some [(0,1),(1,1),(2,1),(3,1)]:=by kernel_rfl
def V.Xw:eQ Tryz.prog 194=some []:=by kernel_rfl
def V.XS:eQ Tryz.prog 223=some [(0,1),(1,1),(2,1),(3,1),(4,1),(5,1),(6,1),(7,1),(8,1),(9,1),(10,1),(11,1),(12,1)]:=by kernel_rfl
def V.Yp:eQ Tryz.prog 231=some [(0,16),(16,1),(17,1)]:=by kernel_rfl
def V.XC:eQ Tryz.prog 236=some [(0,4)]:=by kernel_rfl
def V.XB:eQ Tryz.prog 237=some []:=by kernel_rfl
def V.XZ:eQ Tryz.prog 275=some [(0,1),(1,16),(17,1),(18,1)]:=by kernel_rfl
def V.XK:eQ Tryz.prog 279=some [(0,1),(1,1)]:=by kernel_rfl
def V.vd:da Tryz.prog 204=true:=by kernel_rfl
def V.hI:da Tryz.prog 219=true:=by kernel_rfl
def V.kO:da Tryz.prog 22=true:=by kernel_rfl
def V.Cr:da Tryz.prog 221=true:=by kernel_rfl
def V.Hj:da Tryz.prog 27=true:=by kernel_rfl
def V.aci:da Tryz.prog 273=true:=by kernel_rfl
def V.s3:da Tryz.prog 3=true:=by kernel_rfl
def V.s4:da Tryz.prog 4=true:=by kernel_rfl
def V.mj:da Tryz.prog 47=true:=by kernel_rfl
def V.s5:da Tryz.prog 5=true:=by kernel_rfl
def V.bT:sliceB Tryz.prog 22=some (5,1,1):=by kernel_rfl
def V.Ml:sliceB Tryz.prog 247=some (246,2,16):=by kernel_rfl
def V.L3:sliceB Tryz.prog 273=some (279,2,16):=by kernel_rfl
def V.cy:sliceB Tryz.prog 47=some (3,1,8):=by kernel_rfl
def V.u3:iY Tryz.prog 3=true:=by kernel_rfl
def V.u5:iY Tryz.prog 5=true:=by kernel_rfl
def V.u52:iY Tryz.prog 52=true:=by kernel_rfl
def V.D3:iY Tryz.prog 76=true:=by kernel_rfl
def V.WR:cW Tryz.prog 151=some ([.slice none 0 0,.int .i64 0,.bool false,.bool false]):=by kernel_rfl
def V.z156:cW Tryz.prog 156=some ([.slice none 0 0,.slice none 0 0,.int .i64 0,.int .i64 0]):=by kernel_rfl
def V.z194:cW Tryz.prog 194=some ([]):=by kernel_rfl
def V.acG:cW Tryz.prog 223=some ([.pointer none,.int .i64 0,.int .i64 0,.slice none 0 0,.bool false,.int .i64 0,.int .i64 0,.int .i64 0,.bool false,.pointer none,.pointer none,.int .i64 0,.int .i64 0]):=by kernel_rfl
def V.acU:cW Tryz.prog 231=some ([.int .i64 0,.int .i64 0,.int .i64 0,.int .i64 0,.int .i64 0,.int .i64 0,.int .i64 0,.int .i64 0,.int .i64 0,.int .i64 0,.int .i64 0,.int .i64 0,.int .i64 0,.int .i64 0,.int .i64 0,.int .i64 0,.slice none 0 0,.slice none 0 0]):=by kernel_rfl
def V.z236:cW Tryz.prog 236=some ([.slice none 0 0,.slice none 0 0,.int .i64 0,.int .i64 0]):=by kernel_rfl
def V.R7:cW Tryz.prog 237=some ([]):=by kernel_rfl
def V.KY:cW Tryz.prog 246=some ([.int .i64 0,.int .i64 0]):=by kernel_rfl
def V.z27:cW Tryz.prog 27=some ([.int .i64 0]):=by kernel_rfl
def V.acR:cW Tryz.prog 275=some ([.slice none 0 0,.int .i64 0,.int .i64 0,.int .i64 0,.int .i64 0,.int .i64 0,.int .i64 0,.int .i64 0,.int .i64 0,.int .i64 0,.int .i64 0,.int .i64 0,.int .i64 0,.int .i64 0,.int .i64 0,.int .i64 0,.int .i64 0,.slice none 0 0,.int .i64 0]):=by kernel_rfl
def V.Sh:cW Tryz.prog 279=some ([.int .i64 0,.int .i64 0]):=by kernel_rfl
def V.z3:cW Tryz.prog 3=some ([.int .i64 0]):=by kernel_rfl
def V.z5:cW Tryz.prog 5=some ([.int .u8 0]):=by kernel_rfl
end Go.Proofs.YtmaiakpjgomnpaaGreat
namespace Go.Proofs.YtmaiakpjgomnpaaGreat
open Go.Sl
def TT:ig Tryz.prog ⟨[22,24,47,59,64,84,140,247],[(26,0,0),(26,1,1),(26,2,2),(35,0,0),(35,1,1),(35,2,2),(35,3,3),(35,4,4),(38,0,0),(38,1,1),(38,2,2),(38,3,3),(38,4,4),(57,0,0),(57,1,1),(67,0,0),(67,1,1),(67,2,2),(67,3,3),(67,4,4),(67,5,5),(88,0,0),(88,1,1),(90,0,0),(90,1,5),(90,2,6),(90,3,7),(90,4,8),(137,0,0),(137,1,1),(137,2,2),(137,3,3),(145,0,0),(145,1,1),(145,2,2),(145,3,3),(145,4,4),(145,5,5),(151,0,0),(151,1,1),(151,2,2),(151,3,3),(156,0,0),(156,2,2),(158,0,0),(175,0,0),(223,0,0),(223,3,3),(223,4,4),(223,5,5),(223,6,6),(223,7,7),(223,8,8),(223,9,9),(223,10,10),(223,11,11),(223,12,12),(231,0,0),(231,1,16),(236,0,0),(275,0,0),(275,1,1),(275,2,17),(275,3,18)]⟩=true:=by kernel_rfl
end Go.Proofs.YtmaiakpjgomnpaaGreat
namespace Go.Proofs.YtmaiakpjgomnpaaGreat
open Go.Sl 
def oE(p:Option Addr)(n cap:Nat)(fv:Value)(P A B C Z:List Int)(a b k0:Int)(ha:a=P.length)(hbb:b=(P.length+A.length+B.length:Nat))(hk0:k0=A.length)(hC:C.length=A.length)(hn:P.length+A.length+B.length+A.length+Z.length=n)(hn2:n≤1000000):aA Tryz.prog 256 [.slice p n cap,I6 a,I6 b,I6 k0,fv] [Row I3 p n cap (P++A++B++C++Z)] (aF fun v G=>v=.tuple #[]∧G=[Row I3 p n cap (P++C++B++A++Z)]):=by
 refine ao [(0,_),(1,_),(2,_),(3,_),(4,_)] Tryz.func256 rfl Tryz.ntmps256 rfl rfl ?_
 intro w0 F
 refine(l6) ?_
 rw[show P++A++B++C++Z=P++(C.take 0++A.drop 0)++B++(A.take 0++C.drop 0)++Z by simp]
 refine cF (fun(k:Nat)=>[(0,.slice p n cap),(1,I6 a),(2,I6 b),(3,I6 k0),(10,I6 (k:Int))]) (fun(k:Nat)=>Row I3 p n cap (P++(C.take k++A.drop k)++B++(A.take k++C.drop k)++Z)::F) (fun(k:Nat)=>k≤A.length) (fun(k:Nat)=>A.length-k) (i1 (0) ?_ (bb ln) (sub (an .nil) aj)) ?_
 ·exact Nat.zero_le _
 intro k
 rintro hk
 refine(nC) ?_
 refine av rfl (fun h13=>?_) (fun h13=>?_)
 ·refine(Q4) ?_
  refine wN [pz 0 [] [0],pz 0 [] [1],pz 0 [] [10],pz 6 [1,2] [],pz 0 [] [0],pz 0 [] [2],pz 0 [] [10],pz 96 [5,6] [],pz 0 [] [0],pz 0 [] [2],pz 0 [] [10],pz 1536 [9,10] [],pz 3840 [8,11] [],pz 7936 [12] [],pz 0 [] [0],pz 0 [] [1],pz 0 [] [10],pz 98304 [15,16] [],pz 245760 [14,17] [],pz 507904 [18] [],pz 1048335 [0,3] [],pz 2096911 [20,13] [],pz 4194303 [4,7] [],pz 8388607 [22,19] []] [⟨fun y=>Row I3 p n cap (P++(C.take k++A.drop k)++B++(A.take k++C.drop k)++Z),none,some 21,[12,13,18,19,20]⟩,⟨fun y=>Row I3 p n cap ((P++(C.take k++A.drop k)++B++(A.take k++C.drop k)++Z).set (a+(k:Int)).toNat ((I3).g (P++(C.take k++A.drop k)++B++(A.take k++C.drop k)++Z) (b+(k:Int)))),some 21,some 23,[22]⟩,⟨fun y=>Row I3 p n cap (((P++(C.take k++A.drop k)++B++(A.take k++C.drop k)++Z).set (a+(k:Int)).toNat ((I3).g (P++(C.take k++A.drop k)++B++(A.take k++C.drop k)++Z) (b+(k:Int)))).set (b+(k:Int)).toNat ((I3).g (P++(C.take k++A.drop k)++B++(A.take k++C.drop k)++Z) (a+(k:Int)))),some 23,none,[]⟩] F V.mixed ?_
  iterate 3 refine nM ?_
  refine(Qv) ?_
  iterate 3 refine nM ?_
  refine(Qv) ?_
  iterate 3 refine nM ?_
  refine nV (fun y hA L=>dw rfl rfl wI) ?_
  refine nR (fun y FF hA=>xI V.cy (own ay)) ?_
  refine nR (fun y FF hA=>xL V.s3 (own ay)) ?_
  iterate 3 refine nM ?_
  refine(Qv) ?_
  refine(oH) ?_
  refine(zT) ?_
  refine(oH) ?_
  refine(yH) ?_
  refine(oH) ?_
  refine(yH) ?_
  refine(Qi) ?_
  intro y hA
  clear hA
  show ks _ _ _ _ (Row I3 p n cap (((P++(C.take k++A.drop k)++B++(A.take k++C.drop k)++Z).set (a+(k:Int)).toNat ((I3).g (P++(C.take k++A.drop k)++B++(A.take k++C.drop k)++Z) (b+(k:Int)))).set (b+(k:Int)).toNat ((I3).g (P++(C.take k++A.drop k)++B++(A.take k++C.drop k)++Z) (a+(k:Int))))::F)
  refine(uR)<|(sF)<|(tu) ?_
  have e1:(a+(k:Int)).toNat=P.length+k:=omg
  have e2:(b+(k:Int)).toNat=P.length+A.length+B.length+k:=omg
  simp only[Ec.g,e1,e2]
  rw[dj.Ct omg hC]
  refine j1 (k+1) ?_ (bb ln) (sub (an .nil) aj)
  exact⟨omg,omg⟩
 ·refine(Q4) ?_
  have hke:k=A.length:=omg
  subst hke
  rw[show P++(C.take A.length++A.drop A.length)++B++(A.take A.length++C.drop A.length)++Z=P++C++B++A++Z by rw[List.drop_length,List.take_length,←hC,List.take_length,List.drop_length];simp]
  exact ik fI ⟨rfl,rfl⟩ (sub (an .nil) aj)
def G5(p:Option Addr)(n cap:Nat)(fv:Value)(P X Y Z:List Int)(a m b:Int)(ha:a=P.length)(hm:m=(P.length+X.length:Nat))(hbb:b=(P.length+X.length+Y.length:Nat))(hX:0<X.length)(hY:0<Y.length)(hn:P.length+X.length+Y.length+Z.length=n)(hn2:n≤1000000):aA Tryz.prog 253 [.slice p n cap,I6 a,I6 m,I6 b,fv] [Row I3 p n cap (P++X++Y++Z)] (aF fun v G=>v=.tuple #[]∧G=[Row I3 p n cap (P++Y++X++Z)]):=by
 refine ao [(0,_),(1,_),(2,_),(3,_),(4,_)] Tryz.func253 rfl Tryz.ntmps253 rfl rfl ?_
 intro w0 F
 refine HX TT 18 rfl omg ?_
 rw[show m-a=(X.length:Int) by omega,show b-m=(Y.length:Int) by omega]
 refine uq (fun(P2:List Int) (X2:List Int) (Y2:List Int) (Z2:List Int)=>[(0,.slice p n cap),(2,I6 m),(4,fv),(10,I6 (X2.length:Int)),(11,I6 (Y2.length:Int))]) (fun(P2:List Int) (X2:List Int) (Y2:List Int) (Z2:List Int)=>Row I3 p n cap (P2++X2++Y2++Z2)::F) (fun(P2:List Int) (X2:List Int) (Y2:List Int) (Z2:List Int)=>P2++Y2++X2++Z2=P++Y++X++Z∧m=(P2.length+X2.length:Nat)∧0<X2.length∧0<Y2.length∧P2.length+X2.length+Y2.length+Z2.length=n) (fun(P2:List Int) (X2:List Int) (Y2:List Int) (Z2:List Int)=>X2.length+Y2.length) (i4 (P) (X) (Y) (Z) ?_ (bb ln) (sub (an .nil) aj)) ?_
 ·exact⟨rfl,hm,hX,hY,hn⟩
 intro P2 X2 Y2 Z2
 rintro⟨hT,hm2,hX2,hY2,hn3⟩
 refine(nC) ?_
 refine av rfl (fun h20=>?_) (fun h20=>?_)
 ·refine(QN) ?_
  refine av rfl (fun h23=>?_) (fun h23=>?_)
  ·refine(Qa) ?_
   obtain⟨A,B,hX2,hA⟩:∃A B,X2=A++B∧A.length=Y2.length:=⟨X2.take Y2.length,X2.drop Y2.length,by simp,by simp;omega⟩
   subst hX2
   rw[←List.append_assoc P2 A B]
   refine(r9) ?_
   refine oC (oE p n cap _ P2 A B Y2 Z2 _ _ _ omg (by(simp only[List.length_append,List.length_nil] at*;omega)) omg omg (by(simp only[List.length_append,List.length_nil] at*;omega)) hn2) V.K8 rfl (an .nil) rfl<|(QU) ?_
   (rw[show(((A++B).length:Nat):Int)-(Y2.length:Int)=(B.length:Int) by simp only[List.length_append];omega,show(Y2.length:Int)=(A.length:Int) by omega];simp only[List.length_append] at*;exact j4 (y0:=P2++Y2) (y1:=B) (y2:=A) (y3:=Z2) ⟨⟨by rw[←hT];simp,by simp only[List.length_append];omega,omg,omg,by simp only[List.length_append];omega⟩,omg⟩ (bb ln) (sub (an .nil) aj))
  ·refine(Qa) ?_
   obtain⟨B,C2,hY2,hC2⟩:∃B C2,Y2=B++C2∧C2.length=X2.length:=⟨Y2.take (Y2.length-X2.length),Y2.drop (Y2.length-X2.length),by simp,by simp;omega⟩
   subst hY2
   rw[←List.append_assoc (P2++X2) B C2]
   refine(EL) ?_
   refine oC (oE p n cap _ P2 X2 B C2 Z2 _ _ _ omg (by(simp only[List.length_append,List.length_nil] at*;omega)) omg omg (by(simp only[List.length_append,List.length_nil] at*;omega)) hn2) V.K8 rfl (an .nil) rfl<|(QU) ?_
   (rw[show(((B++C2).length:Nat):Int)-(X2.length:Int)=(B.length:Int) by simp only[List.length_append];omega,show(X2.length:Int)=(C2.length:Int) by omega,List.append_assoc (P2++C2++B) X2 Z2];simp only[List.length_append] at*;exact j4 (y0:=P2) (y1:=C2) (y2:=B) (y3:=X2++Z2) ⟨⟨by rw[←hT];simp,omg,omg,omg,by simp only[List.length_append];omega⟩,omg⟩ (bb ln) (sub (an .nil) aj))
 ·refine(Qb) ?_
  rw[show P2++X2++Y2++Z2=P2++X2++[]++Y2++Z2 by simp]
  refine(r9) ?_
  refine oC (oE p n cap _ P2 X2 [] Y2 Z2 _ _ _ omg omg omg omg (by(simp only[List.length_append,List.length_nil] at*;omega)) hn2) V.K8 rfl (an .nil) rfl<|ga ?_
  rw[show P2++Y2++[]++X2++Z2=P++Y++X++Z by rw[List.append_nil];exact hT]
  exact ik fI ⟨rfl,rfl⟩ (sub (an .nil) aj)

def tc(p:Option Addr)(n cap:Nat)(cf:Nat)(fs cs:List Value)(S:ad)(key:Int→Int)(Pd:Int→Prop)(hb:az Tryz.prog cf=true)(hf:∀x y,Pd x→Pd y→aA Tryz.prog cf (fs++[I6 x,I6 y]++cs) [S] (aF fun v G=>v=I6 (nK (key x) (key y))∧G=[S]))(l:List Int)(aI bI:Int)(a b:Nat)(ha:aI=a)(hbI:bI=b)(hab:a≤b)(hbn:b≤n)(hn2:n≤1000000)(hpd:∀i,i<n→Pd (l.getD i I3.d)):aA Tryz.prog 245 [.slice p n cap,I6 aI,I6 bI,.func (.func cf) fs.toArray cs.toArray] [Row I3 p n cap (l),S] (aF fun v G=>v=.tuple #[]∧∃l2,dj.Rl key I3.d l l2 a b∧dj.Sd key I3.d l2 a b∧G=[Row I3 p n cap (l2),S]):=by
 refine ao [(0,_),(1,_),(2,_),(3,_)] Tryz.func245 rfl Tryz.ntmps245 rfl rfl ?_
 intro w0 F
 refine Nv (own ay) (fun hlen=>?_)
 refine HX TT 8 rfl omg ?_
 rw[show aI+1=((a+1:Nat):Int) by omega]
 refine gx (fun(i:Nat) (l1:List Int)=>[(0,.slice p n cap),(1,I6 aI),(2,I6 bI),(3,.func (.func cf) fs.toArray cs.toArray),(8,I6 (i:Int))]) (fun(i:Nat) (l1:List Int)=>Row I3 p n cap (l1)::S::F) (fun(i:Nat) (l1:List Int)=>a+1≤i∧(i≤b∨i=a+1)∧dj.Rl key I3.d l l1 a b∧dj.Sd key I3.d l1 a i) (fun(i:Nat) (l1:List Int)=>b-i) (i2 (a+1) (_) ?_ (bb ln) (sub (aJ .nil) aj)) ?_
 ·exact⟨Nat.le_refl _,.inr rfl,dj.Rl.refl _ _ _,dj.Sd.small (Nat.le_refl _)⟩
 intro i l1
 rintro⟨hi1,hi2,hR1,hS1⟩
 refine(nC) ?_
 refine av rfl (fun h14=>?_) (fun h14=>?_)
 ·refine(lW) ?_
  refine gx (fun(j:Nat) (l2:List Int)=>[(0,.slice p n cap),(1,I6 aI),(2,I6 bI),(3,.func (.func cf) fs.toArray cs.toArray),(8,I6 (i:Int)),(9,I6 (j:Int))]) (fun(j:Nat) (l2:List Int)=>Row I3 p n cap (l2)::S::F) (fun(j:Nat) (l2:List Int)=>a≤j∧j≤i∧dj.Rl key I3.d l l2 a b∧dj.Ins key I3.d l2 a j i) (fun(j:Nat) (l2:List Int)=>j) (i2 (i) (_) ?_ (iw (bb ln)) (sub (aJ .nil) aj)) ?_
  ·exact⟨omg,Nat.le_refl _,hR1,dj.Ins.start hS1⟩
  intro j l2
  rintro⟨hj1,hj2,hR2,hI2⟩
  refine rL TT 2 rfl ?_
  have hpd2:=hR2.pd (Pd:=Pd) hbn hpd
  have hlen2:=hR2.len
  by_cases h20:aI<(j:Int)
  ·refine wN [pz 0 [] [9],pz 0 [] [1],pz 3 [0,1] [],pz 7 [2] [],pz 15 [3] [3],pz 15 [3] [0],pz 15 [3] [9],pz 111 [5,6,3] [],pz 239 [7,3] [],pz 15 [3] [0],pz 15 [3] [9],pz 1039 [10,3] [],pz 3599 [9,11,3] [],pz 7695 [12,3] [],pz 16383 [4,8,13,3] [],pz 32767 [14,3] [],pz 65535 [3,15] []] [⟨fun y=>Row I3 p n cap (l2),none,none,[7,8,12,13]⟩,⟨fun y=>S,none,some 14,[]⟩,⟨fun y=>S,some 14,none,[]⟩] F V.mixed ?_
   iterate 2 refine nM ?_
   refine nV (fun y hA L=>bQ (cR rfl rfl) h20) ?_
   refine nM ?_
   refine(yD) ?_
   refine(yD) ?_
   refine(yD) ?_
   refine(Q6B) ?_
   refine(ZS) ?_
   refine(yD) ?_
   refine(yD) ?_
   refine(UY) ?_
   refine(Q6B) ?_
   refine(ZS) ?_
   refine nE (fun y FF hA=>eR rfl (lN (fs:=fs) (cs:=cs) (Post:=[S]) (hf (I3.g l2 (j:Int)) (I3.g l2 ((j:Int)-1)) (gP (k:=j) omg (hpd2 _ omg)) (gP (k:=j-1) omg (hpd2 _ omg))) hb rfl rfl (an .nil) (fun v G h=>by rcases h with⟨rfl,rfl⟩;exact⟨rfl,.refl _⟩))) ?_
   refine(Q6D) ?_
   refine nV (fun y hA L=>ow rfl rfl) ?_
   refine(Qi) ?_
   intro y hA
   clear hA
   refine bJ<|(Q6E) ?_
   refine bA (M:=Row I3 p n cap (l2)::S::F) (fun _ _ h=>h) ?_
   refine av rfl (fun h34=>?_) (fun h34=>?_)
   ·refine(Q4) ?_
    refine wN [pz 0 [] [0],pz 0 [] [9],pz 0 [] [0],pz 0 [] [9],pz 8 [3] [],pz 0 [] [0],pz 0 [] [9],pz 64 [6] [],pz 224 [5,7] [],pz 480 [8] [],pz 0 [] [0],pz 0 [] [9],pz 3072 [10,11] [],pz 7168 [12] [],pz 16355 [0,1] [],pz 32739 [14,9] [],pz 65535 [2,4] [],pz 131071 [16,13] []] [⟨fun y=>Row I3 p n cap (l2),none,some 15,[8,9,12,13,14]⟩,⟨fun y=>S,none,none,[]⟩,⟨fun y=>Row I3 p n cap ((l2).set (j:Int).toNat ((I3).g (l2) ((j:Int)-1))),some 15,some 17,[16]⟩,⟨fun y=>Row I3 p n cap (((l2).set (j:Int).toNat ((I3).g (l2) ((j:Int)-1))).set ((j:Int)-1).toNat ((I3).g (l2) (j:Int))),some 17,none,[]⟩] F V.mixed ?_
    iterate 4 refine nM ?_
    refine(vW) ?_
    iterate 2 refine nM ?_
    refine nV (fun y hA L=>k5 rfl rfl wI) ?_
    refine nR (fun y FF hA=>xI V.cy (own ay)) ?_
    refine nR (fun y FF hA=>xL V.s3 (own ay)) ?_
    iterate 2 refine nM ?_
    refine(oH) ?_
    refine(zT) ?_
    refine(oH) ?_
    refine(yH) ?_
    refine(oH) ?_
    refine(yH) ?_
    refine(Qi) ?_
    intro y hA
    clear hA
    show ks _ _ _ _ (S::Row I3 p n cap (((l2).set (j:Int).toNat ((I3).g (l2) ((j:Int)-1))).set ((j:Int)-1).toNat ((I3).g (l2) (j:Int)))::F)
    refine(uR) ?_
    refine oV (k5 rfl rfl wI)<|(tu) ?_
    have hlt:=kE.1 h34
    rw[gE j omg,gE (j-1) omg] at hlt
    have e1:((j:Int)-1).toNat=j-1:=omg
    have e0:(j:Int).toNat=j:=omg
    simp only[Ec.g,e1,e0]
    rw[show(j:Int)-1=((j-1:Nat):Int) by omega]
    exact j2 (j-1) _ ⟨⟨omg,omg,hR2.trans (dj.Rl.MB omg omg omg hlt),hI2.step omg hj2 omg hlt⟩,omg⟩ (iw (bb ln)) (sub (.cons ar (an .nil)) aj)
   ·refine(wM) ?_
    exact j2 (i+1) _ ⟨⟨omg,omg,hR2,hI2.fin hj1 (.inr (by have h:=Int.not_lt.1 (fun h=>h34 (kE.2 h));rw[gE (j-1) omg,gE j omg] at h;exact h))⟩,omg⟩ (bb ln) (sub (aJ .nil) aj)
  ·refine wN [pz 0 [] [9],pz 0 [] [1],pz 3 [0,1] [],pz 7 [2] [],pz 15 [3] [3],pz 15 [3] [0],pz 15 [3] [9],pz 111 [5,6,3] [],pz 239 [7,3] [],pz 15 [3] [0],pz 15 [3] [9],pz 1039 [10,3] [],pz 3599 [9,11,3] [],pz 7695 [12,3] [],pz 16383 [4,8,13,3] [],pz 32767 [14,3] [],pz 65535 [3,15] []] [⟨fun y=>Row I3 p n cap (l2),none,none,[]⟩,⟨fun y=>S,none,none,[]⟩] F V.mixed ?_
   iterate 2 refine nM ?_
   refine nV (fun y hA L=>bC (cR rfl rfl) h20) ?_
   refine nM ?_
   refine(kH) ?_
   refine(kH) ?_
   refine(kH) ?_
   refine(kH) ?_
   refine(kH) ?_
   refine(kH) ?_
   refine(kH) ?_
   refine(kH) ?_
   refine(kH) ?_
   refine(kH) ?_
   refine(kH) ?_
   refine(kH) ?_
   refine nV (fun y hA L=>pR rfl rfl) ?_
   refine(Qi) ?_
   intro y hA
   clear hA
   refine bJ<|(Q6E) ?_
   refine bA (M:=Row I3 p n cap (l2)::S::F) (fun _ _ h=>h)<|(EL) ?_
   exact j2 (i+1) _ ⟨⟨omg,omg,hR2,hI2.fin hj1 (.inl omg)⟩,omg⟩ (bb ln) (sub (aJ .nil) aj)
 ·refine(Q4) ?_
  exact ik fI ⟨rfl,l1,hR1,hS1.sub (Nat.le_refl _) omg,rfl⟩ (sub (aJ .nil) aj)

def Jb(p:Option Addr)(n cap:Nat)(cf:Nat)(fs cs:List Value)(S:ad)(key:Int→Int)(Pd:Int→Prop)(hb:az Tryz.prog cf=true)(hf:∀x y,Pd x→Pd y→aA Tryz.prog cf (fs++[I6 x,I6 y]++cs) [S] (aF fun v G=>v=I6 (nK (key x) (key y))∧G=[S]))(l:List Int)(a m b:Nat)(ham:a<m)(hmb:m<b)(hbn:b≤n)(hn2:n≤1000000)(hpd:∀i,i<n→Pd (l.getD i I3.d))(h1:dj.Sd key I3.d l a m)(h2:dj.Sd key I3.d l m b)(ih:∀(l:List Int) (a2 m2 b2:Nat),b2-a2<b-a→a2<m2→m2<b2→b2≤n→(∀i,i<n→Pd (l.getD i I3.d))→dj.Sd key I3.d l a2 m2→dj.Sd key I3.d l m2 b2→aA Tryz.prog 246 [.slice p n cap,I6 (a2:Int),I6 (m2:Int),I6 (b2:Int),.func (.func cf) fs.toArray cs.toArray] [Row I3 p n cap (l),S] (aF fun v G=>v=.tuple #[]∧∃l2,dj.Rl key I3.d l l2 a2 b2∧dj.Sd key I3.d l2 a2 b2∧G=[Row I3 p n cap (l2),S])):aA Tryz.prog 246 [.slice p n cap,I6 (a:Int),I6 (m:Int),I6 (b:Int),.func (.func cf) fs.toArray cs.toArray] [Row I3 p n cap (l),S] (aF fun v G=>v=.tuple #[]∧∃l2,dj.Rl key I3.d l l2 a b∧dj.Sd key I3.d l2 a b∧G=[Row I3 p n cap (l2),S]):=by
 refine ao [(0,_),(1,_),(2,_),(3,_),(4,_)] Tryz.func246 rfl Tryz.ntmps246 rfl rfl ?_
 intro w0 F
 refine Nv (own ay) (fun hlen=>?_)
 refine HX TT 9 rfl omg ?_
 refine av rfl (fun h28=>?_) (fun h28=>?_)
 ·refine(r6) ?_
  refine gx (fun(i:Nat) (j:Nat)=>[(0,.slice p n cap),(1,I6 (a:Int)),(4,.func (.func cf) fs.toArray cs.toArray),(10,I6 (i:Int)),(11,I6 (j:Int))]) (fun(i:Nat) (j:Nat)=>Row I3 p n cap (l)::S::F) (fun(i:Nat) (j:Nat)=>m≤i∧i≤j∧j≤b∧(∀x,m≤x→x<i→key (l.getD x I3.d)<key (l.getD a I3.d))∧(∀x,j≤x→x<b→key (l.getD a I3.d)≤key (l.getD x I3.d))) (fun(i:Nat) (j:Nat)=>j-i) (i2 (m) (b) ?_ (bb ln) (sub (aJ .nil) aj)) ?_
  ·exact⟨Nat.le_refl _,omg,Nat.le_refl _,fun x x1 x2=>by omega,fun x x1 x2=>by omega⟩
  intro i j
  rintro⟨hi1,hij,hj1,hlo,hhi⟩
  refine(nC) ?_
  refine av rfl (fun h33=>?_) (fun h33=>?_)
  ·refine(r9)<|(sk)<|(Ns)<|(NF)<|(Ei) ?_
   obtain⟨h,hhh⟩:∃h:Nat,h=(i+j)/2:=⟨_,rfl⟩
   rw[show((i:Int)+(j:Int))/2=((h:Nat):Int) by omega]
   refine(Qc) ?_
   refine wN [pz 0 [] [4],pz 0 [] [0],pz 0 [] [12],pz 6 [1,2] [],pz 14 [3] [],pz 0 [] [0],pz 0 [] [1],pz 96 [5,6] [],pz 224 [7] [],pz 511 [0,4,8] [],pz 1023 [9] []] [⟨fun y=>Row I3 p n cap (l),none,none,[3,4,7,8]⟩,⟨fun y=>S,none,some 9,[]⟩,⟨fun y=>S,some 9,none,[]⟩] F V.mixed ?_
   iterate 3 refine nM ?_
   refine nR (fun y FF hA=>xI V.cy (own ay)) ?_
   refine nR (fun y FF hA=>xL V.s3 (own ay)) ?_
   iterate 2 refine nM ?_
   refine nR (fun y FF hA=>xI V.cy (own ay)) ?_
   refine nR (fun y FF hA=>xL V.s3 (own ay)) ?_
   refine nE (fun y FF hA=>lN (fs:=fs) (cs:=cs) (Post:=[S]) (hf (I3.g l (h:Int)) (I3.g l (a:Int)) (gP (k:=h) omg (hpd _ omg)) (gP (k:=a) omg (hpd _ omg))) hb rfl rfl (an .nil) (fun v G h=>by rcases h with⟨rfl,rfl⟩;exact⟨rfl,.refl _⟩)) ?_
   refine nV (fun y hA L=>dD rfl rfl) ?_
   refine cZ ?_
   intro y hA
   clear hA
   refine bJ<|bW _ (.cons (d:=0) rfl (.cons (d:=1) rfl (.cons (d:=4) rfl (.cons (d:=10) rfl (.cons (d:=11) rfl (.cons (d:=12) rfl (.cons (d:=50) rfl (.nil _))))))))<|(TQ) ?_
   refine av rfl (fun h50=>?_) (fun h50=>?_)
   ·refine(EE) ?_
    exact j2 (h+1) j ⟨⟨omg,omg,omg,dj.Xf h2 omg omg (by have q:=kE.1 h50;rw[gE (h) omg,gE (a) omg] at q;exact q),hhi⟩,omg⟩ (bb ln) (sub (aJ .nil) aj)
   ·refine(Qb) ?_
    exact j2 i h ⟨⟨omg,omg,omg,hlo,dj.Xi h2 omg omg (by have q:=Int.not_lt.1 (fun z=>h50 (kE.2 z));rw[gE (a) omg,gE (h) omg] at q;exact q)⟩,omg⟩ (bb ln) (sub (aJ .nil) aj)
  ·refine(Qr) ?_
   have hij:i=j:=omg
   subst hij
   have hma:m=a+1:=omg
   subst hma
   refine(Qf) ?_
   refine gx (fun(k:Nat) (l2:List Int)=>[(0,.slice p n cap),(10,I6 (i:Int)),(13,I6 (k:Int))]) (fun(k:Nat) (l2:List Int)=>Row I3 p n cap (l2)::S::F) (fun(k:Nat) (l2:List Int)=>a≤k∧k≤i-1∧dj.Mv key I3.d l l2 a b k) (fun(k:Nat) (l2:List Int)=>i-k) (i2 (a) (l) ?_ (eo ln) (sub (aJ .nil) aj)) ?_
   ·exact⟨Nat.le_refl _,omg,dj.Mv.start _ _ _⟩
   intro k l2
   rintro⟨hk1,hk2,hMv⟩
   refine EK TT 9 rfl omg ?_
   refine av rfl (fun h58=>?_) (fun h58=>?_)
   ·refine(Q4) ?_
    refine wN [pz 0 [] [0],pz 0 [] [13],pz 0 [] [0],pz 0 [] [13],pz 8 [3] [],pz 0 [] [0],pz 0 [] [13],pz 64 [6] [],pz 224 [5,7] [],pz 480 [8] [],pz 0 [] [0],pz 0 [] [13],pz 3072 [10,11] [],pz 7168 [12] [],pz 16355 [0,1] [],pz 32739 [14,9] [],pz 65535 [2,4] [],pz 131071 [16,13] []] [⟨fun y=>Row I3 p n cap (l2),none,some 15,[8,9,12,13,14]⟩,⟨fun y=>S,none,none,[]⟩,⟨fun y=>Row I3 p n cap ((l2).set (k:Int).toNat ((I3).g (l2) ((k:Int)+1))),some 15,some 17,[16]⟩,⟨fun y=>Row I3 p n cap (((l2).set (k:Int).toNat ((I3).g (l2) ((k:Int)+1))).set ((k:Int)+1).toNat ((I3).g (l2) (k:Int))),some 17,none,[]⟩] F V.mixed ?_
    iterate 4 refine nM ?_
    refine(Qv) ?_
    iterate 2 refine nM ?_
    refine nV (fun y hA L=>dw rfl rfl wI) ?_
    refine nR (fun y FF hA=>xI V.cy (own ay)) ?_
    refine nR (fun y FF hA=>xL V.s3 (own ay)) ?_
    iterate 2 refine nM ?_
    refine(oH) ?_
    refine(zT) ?_
    refine(oH) ?_
    refine(yH) ?_
    refine(oH) ?_
    refine(yH) ?_
    refine(Qi) ?_
    intro y hA
    clear hA
    show ks _ _ _ _ (S::Row I3 p n cap (((l2).set (k:Int).toNat ((I3).g (l2) ((k:Int)+1))).set ((k:Int)+1).toNat ((I3).g (l2) (k:Int)))::F)
    refine(uR)<|(sF)<|(tu) ?_
    have hlen2:=hMv.rl.len
    have e1:((k:Int)+1).toNat=k+1:=omg
    have e0:(k:Int).toNat=k:=omg
    simp only[Ec.g,e1,e0]
    exact j2 (k+1) _ ⟨⟨omg,omg,hMv.step omg omg omg (hlo _ omg omg)⟩,omg⟩ (eo ln) (sub (.cons ar (an .nil)) aj)
   ·refine(Qr) ?_
    have hke:k=i-1:=omg
    subst hke
    exact af fI ⟨rfl,l2,hMv.rl,hMv.fin omg omg h2 hlo hhi,rfl⟩ (sub (aJ .nil) aj)
 ·refine(wM) ?_
  refine av rfl (fun h80=>?_) (fun h80=>?_)
  ·refine(r6) ?_
   refine gx (fun(i:Nat) (j:Nat)=>[(0,.slice p n cap),(2,I6 (m:Int)),(4,.func (.func cf) fs.toArray cs.toArray),(14,I6 (i:Int)),(15,I6 (j:Int))]) (fun(i:Nat) (j:Nat)=>Row I3 p n cap (l)::S::F) (fun(i:Nat) (j:Nat)=>a≤i∧i≤j∧j≤m∧(∀x,a≤x→x<i→key (l.getD x I3.d)≤key (l.getD m I3.d))∧(∀x,j≤x→x<m→key (l.getD m I3.d)<key (l.getD x I3.d))) (fun(i:Nat) (j:Nat)=>j-i) (i2 (a) (m) ?_ (bb ln) (sub (aJ .nil) aj)) ?_
   ·exact⟨Nat.le_refl _,omg,Nat.le_refl _,fun x x1 x2=>by omega,fun x x1 x2=>by omega⟩
   intro i j
   rintro⟨hi1,hij,hj1,hlo,hhi⟩
   refine(nC) ?_
   refine av rfl (fun h85=>?_) (fun h85=>?_)
   ·refine(r9)<|(sk)<|(Ns)<|(NF)<|(Ei) ?_
    obtain⟨h,hhh⟩:∃h:Nat,h=(i+j)/2:=⟨_,rfl⟩
    rw[show((i:Int)+(j:Int))/2=((h:Nat):Int) by omega]
    refine(Qc) ?_
    refine wN [pz 0 [] [4],pz 0 [] [0],pz 0 [] [2],pz 6 [1,2] [],pz 14 [3] [],pz 0 [] [0],pz 0 [] [16],pz 96 [5,6] [],pz 224 [7] [],pz 511 [0,4,8] [],pz 1023 [9] [],pz 2047 [10] []] [⟨fun y=>Row I3 p n cap (l),none,none,[3,4,7,8]⟩,⟨fun y=>S,none,some 9,[]⟩,⟨fun y=>S,some 9,none,[]⟩] F V.mixed ?_
    iterate 3 refine nM ?_
    refine(oH) ?_
    refine(zT) ?_
    iterate 2 refine nM ?_
    refine nR (fun y FF hA=>xI V.cy (own ay)) ?_
    refine nR (fun y FF hA=>xL V.s3 (own ay)) ?_
    refine nE (fun y FF hA=>lN (fs:=fs) (cs:=cs) (Post:=[S]) (hf (I3.g l (m:Int)) (I3.g l (h:Int)) (gP (k:=m) omg (hpd _ omg)) (gP (k:=h) omg (hpd _ omg))) hb rfl rfl (an .nil) (fun v G h=>by rcases h with⟨rfl,rfl⟩;exact⟨rfl,.refl _⟩)) ?_
    refine nV (fun y hA L=>dD rfl rfl) ?_
    refine nV (fun y hA L=>A8 rfl) ?_
    refine cZ ?_
    intro y hA
    clear hA
    refine bJ<|bW _ (.cons (d:=0) rfl (.cons (d:=2) rfl (.cons (d:=4) rfl (.cons (d:=14) rfl (.cons (d:=15) rfl (.cons (d:=16) rfl (.cons (d:=103) rfl (.nil _))))))))<|(TQ) ?_
    refine av rfl (fun h103=>?_) (fun h103=>?_)
    ·refine(EE) ?_
     exact j2 (h+1) j ⟨⟨omg,omg,omg,dj.Ya h1 omg omg (by have q:=Int.not_lt.1 (fun z=>h103 (kE.2 z));rw[gE (h) omg,gE (m) omg] at q;exact q),hhi⟩,omg⟩ (bb ln) (sub (aJ .nil) aj)
    ·refine(Qb) ?_
     exact j2 i h ⟨⟨omg,omg,omg,hlo,dj.YV h1 omg omg (by have q:=kE.1 (Classical.not_not.1 h103);rw[gE (m) omg,gE (h) omg] at q;exact q)⟩,omg⟩ (bb ln) (sub (aJ .nil) aj)
   ·refine(Qr) ?_
    have hij:i=j:=omg
    subst hij
    have hbm:b=m+1:=omg
    refine(Qf) ?_
    refine gx (fun(k:Nat) (l2:List Int)=>[(0,.slice p n cap),(14,I6 (i:Int)),(17,I6 (k:Int))]) (fun(k:Nat) (l2:List Int)=>Row I3 p n cap (l2)::S::F) (fun(k:Nat) (l2:List Int)=>i≤k∧k≤m∧dj.Mw key I3.d l l2 a b m k) (fun(k:Nat) (l2:List Int)=>k) (i2 (m) (l) ?_ (eo ln) (sub (aJ .nil) aj)) ?_
    ·exact⟨omg,Nat.le_refl _,dj.Mw.start _ _ _ _⟩
    intro k l2
    rintro⟨hk1,hk2,hMw⟩
    refine(nC) ?_
    refine av rfl (fun h110=>?_) (fun h110=>?_)
    ·refine(Q4) ?_
     refine wN [pz 0 [] [0],pz 0 [] [17],pz 0 [] [0],pz 0 [] [17],pz 8 [3] [],pz 0 [] [0],pz 0 [] [17],pz 64 [6] [],pz 224 [5,7] [],pz 480 [8] [],pz 0 [] [0],pz 0 [] [17],pz 3072 [10,11] [],pz 7168 [12] [],pz 16355 [0,1] [],pz 32739 [14,9] [],pz 65535 [2,4] [],pz 131071 [16,13] []] [⟨fun y=>Row I3 p n cap (l2),none,some 15,[8,9,12,13,14]⟩,⟨fun y=>S,none,none,[]⟩,⟨fun y=>Row I3 p n cap ((l2).set (k:Int).toNat ((I3).g (l2) ((k:Int)-1))),some 15,some 17,[16]⟩,⟨fun y=>Row I3 p n cap (((l2).set (k:Int).toNat ((I3).g (l2) ((k:Int)-1))).set ((k:Int)-1).toNat ((I3).g (l2) (k:Int))),some 17,none,[]⟩] F V.mixed ?_
     iterate 4 refine nM ?_
     refine(vW) ?_
     iterate 2 refine nM ?_
     refine nV (fun y hA L=>k5 rfl rfl wI) ?_
     refine nR (fun y FF hA=>xI V.cy (own ay)) ?_
     refine nR (fun y FF hA=>xL V.s3 (own ay)) ?_
     iterate 2 refine nM ?_
     refine(oH) ?_
     refine(zT) ?_
     refine(oH) ?_
     refine(yH) ?_
     refine(oH) ?_
     refine(yH) ?_
     refine(Qi) ?_
     intro y hA
     clear hA
     show ks _ _ _ _ (S::Row I3 p n cap (((l2).set (k:Int).toNat ((I3).g (l2) ((k:Int)-1))).set ((k:Int)-1).toNat ((I3).g (l2) (k:Int)))::F)
     refine(uR) ?_
     refine oV (k5 rfl rfl wI)<|(tu) ?_
     have hlen2:=hMw.rl.len
     have e1:((k:Int)-1).toNat=k-1:=omg
     have e0:(k:Int).toNat=k:=omg
     simp only[Ec.g,e1,e0]
     rw[show(k:Int)-1=((k-1:Nat):Int) by omega]
     exact j2 (k-1) _ ⟨⟨omg,omg,hMw.step omg omg omg omg (hhi _ omg omg)⟩,omg⟩ (eo ln) (sub (.cons ar (an .nil)) aj)
    ·refine(Qr) ?_
     have hke:k=i:=omg
     subst hke
     exact af fI ⟨rfl,l2,hMw.rl,hMw.fin omg omg hbm h1 hlo hhi,rfl⟩ (sub (aJ .nil) aj)
  ·refine(r3)<|(sk)<|(Ns)<|(NF)<|(Ei) ?_
   obtain⟨bj,hmidmid⟩:∃bj:Nat,bj=(a+b)/2:=⟨_,rfl⟩
   rw[show((a:Int)+(b:Int))/2=((bj:Nat):Int) by omega]
   refine(w5) ?_
   refine yi (fun(st0:Nat) (r0:Nat)=>[(0,.slice p n cap),(1,I6 (a:Int)),(2,I6 (m:Int)),(3,I6 (b:Int)),(4,.func (.func cf) fs.toArray cs.toArray),(18,I6 (bj:Int)),(19,I6 ((bj:Int)+(m:Int))),(20,I6 (st0:Int)),(21,I6 (r0:Int))]) (fun(st0:Nat) (r0:Nat)=>Row I3 p n cap (l)::S::F) (fun(st0:Nat) (r0:Nat)=>st0=(if bj<m then bj+m-b else a)∧r0=(if bj<m then bj else m)) ?_ ?_
   ·refine(qP) ?_
    refine av rfl (fun h140=>?_) (fun h140=>?_)
    ·refine(EL) ?_
     (rw[show(bj:Int)+(m:Int)-(b:Int)=((bj+m-b:Nat):Int) by omega];exact j2 (bj+m-b) bj ⟨(if_pos omg).symm,(if_pos omg).symm⟩ (cK (bb ln)) (sub (aJ .nil) aj))
    ·refine(QN) ?_
     exact j2 a m ⟨(if_neg omg).symm,(if_neg omg).symm⟩ (cK (bb ln)) (sub (aJ .nil) aj)
   ·intro st0 r0
    rintro hst
    have hb0:a≤st0∧st0≤r0∧r0≤m∧r0≤bj∧bj+m≤st0+b∧bj<b:=by obtain⟨e0,e1⟩:=hst;split at e0<;>split at e1<;>omega
    refine mf TT 9 rfl omg ?_
    refine gx (fun(s:Nat) (r:Nat)=>[(0,.slice p n cap),(1,I6 (a:Int)),(2,I6 (m:Int)),(3,I6 (b:Int)),(4,.func (.func cf) fs.toArray cs.toArray),(18,I6 (bj:Int)),(19,I6 ((bj:Int)+(m:Int))),(20,I6 (s:Int)),(21,I6 (r:Int)),(22,I6 (((bj:Int)+(m:Int))-1))]) (fun(s:Nat) (r:Nat)=>Row I3 p n cap (l)::S::F) (fun(s:Nat) (r:Nat)=>st0≤s∧s≤r∧r≤r0∧(∀x,st0≤x→x<s→key (l.getD x I3.d)≤key (l.getD (bj+m-1-x) I3.d))∧(∀x,r≤x→x<r0→key (l.getD (bj+m-1-x) I3.d)<key (l.getD x I3.d))) (fun(s:Nat) (r:Nat)=>r-s) (i2 (st0) (r0) ?_ (bb (bb ln)) (sub (aJ .nil) aj)) ?_
    ·exact⟨Nat.le_refl _,omg,Nat.le_refl _,fun x x1 x2=>by omega,fun x x1 x2=>by omega⟩
    intro s r
    rintro⟨hs1,hsr1,hr1,hy,hno⟩
    refine(nC) ?_
    refine av rfl (fun h151=>?_) (fun h151=>?_)
    ·refine(r9)<|(sk)<|(Ns)<|(NF)<|(Ei) ?_
     obtain⟨h,hhh⟩:∃h:Nat,h=(s+r)/2:=⟨_,rfl⟩
     rw[show((s:Int)+(r:Int))/2=((h:Nat):Int) by omega]
     refine(Qc) ?_
     refine wN [pz 0 [] [4],pz 0 [] [0],pz 0 [] [22],pz 0 [] [23],pz 12 [2,3] [],pz 30 [1,4] [],pz 62 [5] [],pz 0 [] [0],pz 0 [] [23],pz 384 [7,8] [],pz 896 [9] [],pz 2047 [0,6,10] [],pz 4095 [11] [],pz 8191 [12] []] [⟨fun y=>Row I3 p n cap (l),none,none,[5,6,9,10]⟩,⟨fun y=>S,none,some 11,[]⟩,⟨fun y=>S,some 11,none,[]⟩] F V.mixed ?_
     iterate 4 refine nM ?_
     refine(vW) ?_
     refine(oH) ?_
     refine(zT) ?_
     iterate 2 refine nM ?_
     refine nR (fun y FF hA=>xI V.cy (own ay)) ?_
     refine nR (fun y FF hA=>xL V.s3 (own ay)) ?_
     refine nE (fun y FF hA=>lN (fs:=fs) (cs:=cs) (Post:=[S]) (hf (I3.g l ((((bj:Int)+(m:Int))-1)-(h:Int))) (I3.g l (h:Int)) (gP (k:=bj+m-1-h) omg (hpd _ omg)) (gP (k:=h) omg (hpd _ omg))) hb rfl rfl (an .nil) (fun v G h=>by rcases h with⟨rfl,rfl⟩;exact⟨rfl,.refl _⟩)) ?_
     refine nV (fun y hA L=>dD rfl rfl) ?_
     refine nV (fun y hA L=>A8 rfl) ?_
     refine cZ ?_
     intro y hA
     clear hA
     refine bJ<|bW _ (.cons (d:=0) rfl (.cons (d:=1) rfl (.cons (d:=2) rfl (.cons (d:=3) rfl (.cons (d:=4) rfl (.cons (d:=18) rfl (.cons (d:=19) rfl (.cons (d:=20) rfl (.cons (d:=21) rfl (.cons (d:=22) rfl (.cons (d:=23) rfl (.cons (d:=171) rfl (.nil _)))))))))))))<|(TQ) ?_
     refine av rfl (fun h171=>?_) (fun h171=>?_)
     ·refine(EE) ?_
      exact j2 (h+1) r ⟨⟨omg,omg,omg,dj.SM ham hmb hmidmid h1 h2 hst.1 hst.2 omg omg (by have q:=Int.not_lt.1 (fun z=>h171 (kE.2 z));rw[gE (h) omg,gE (bj+m-1-h) omg] at q;exact q),hno⟩,omg⟩ (bb (bb ln)) (sub (aJ .nil) aj)
     ·refine(Qb) ?_
      exact j2 s h ⟨⟨omg,omg,omg,hy,dj.Vu ham hmb hmidmid h1 h2 hst.1 hst.2 omg omg (by have q:=kE.1 (Classical.not_not.1 h171);rw[gE (bj+m-1-h) omg,gE (h) omg] at q;exact q)⟩,omg⟩ (bb (bb ln)) (sub (aJ .nil) aj)
    ·refine(Qf) ?_
     have hsr:s=r:=omg
     subst hsr
     obtain⟨q1,q2,q3,q4,q5,q6,hlt,hc⟩:=dj.LV omg ham hmb hmidmid h1 h2 (by rw[←hst.1];omega) (by rw[←hst.2];omega) (fun hh=>hy (s-1) (by rw[←hst.1] at hh;omega) (by rw[←hst.1] at hh;omega)) (fun hh=>hno s (Nat.le_refl _) (by rw[←hst.2] at hh;omega))
     refine mf TT 5 rfl omg ?_
     obtain⟨e,he⟩:∃e:Nat,e=bj+m-s:=⟨_,rfl⟩
     rw[show(bj:Int)+(m:Int)-(s:Int)=((e:Nat):Int) by omega]
     refine(Q9) ?_
     refine gv (fun(l1:List Int)=>[(0,.slice p n cap),(1,I6 (a:Int)),(3,I6 (b:Int)),(4,.func (.func cf) fs.toArray cs.toArray),(18,I6 (bj:Int)),(20,I6 (s:Int)),(24,I6 (e:Int))]) (fun(l1:List Int)=>Row I3 p n cap (l1)::S::F) (fun(l1:List Int)=>dj.pc key I3.d l l1 a s bj e b) ?_ ?_
     ·refine(Qs) ?_
      refine ev 181 rfl (fun h181=>?_) (fun h181=>?_)
      ·refine(Q1) ?_
       refine av rfl (fun h185=>?_) (fun h185=>?_)
       ·obtain⟨Pp,X,Y,Z,hl,hP,hX,hY,hXm,hYm⟩:=dj.blocks (d:=I3.d) l s m e omg omg omg
        subst hl
        refine(Qf) ?_
        refine oC (G5 p n cap _ Pp X Y Z (s:Int) (m:Int) (e:Int) omg omg omg omg omg (by simp only[List.length_append] at hlen;omega) hn2) V.abU rfl (an .nil) rfl<|ga ?_
        refine j1 (_) ?_ (fF (bb ln)) (sub (aJ .nil) aj)
        (subst he;exact dj.pc.rot hP hX omg h1 h2 ⟨q1,q2,q3,q4,q5,q6⟩ (hlt omg omg) hc hXm hYm)
       ·refine(Qa) ?_
        refine j1 (_) ?_ (fF (bb ln)) (sub (aJ .nil) aj)
        (subst he;exact dj.pc.stay h1 h2 ⟨q1,q2,q3,q4,q5,q6⟩ hc omg)
      ·refine(Qe) ?_
       refine j1 (_) ?_ (fF (bb ln)) (sub (aJ .nil) aj)
       (subst he;exact dj.pc.stay h1 h2 ⟨q1,q2,q3,q4,q5,q6⟩ hc omg)
     ·intro l1
      rintro hPt
      refine gv (fun(l2:List Int)=>[(0,.slice p n cap),(3,I6 (b:Int)),(4,.func (.func cf) fs.toArray cs.toArray),(18,I6 (bj:Int)),(24,I6 (e:Int))]) (fun(l2:List Int)=>Row I3 p n cap (l2)::S::F) (fun(l2:List Int)=>dj.Rl key I3.d l1 l2 a bj∧dj.Sd key I3.d l2 a bj) ?_ ?_
      ·refine(Qs) ?_
       refine ev 195 rfl (fun h195=>?_) (fun h195=>?_)
       ·refine(Q1) ?_
        refine av rfl (fun h199=>?_) (fun h199=>?_)
        ·refine(Qf) ?_
         refine aQ (ih l1 a s bj omg omg omg omg (hPt.rl.pd omg hpd) hPt.s1 hPt.s2) V.FJ rfl (aJ .nil) rfl ?_
         rintro _ _ ⟨rfl,l2,hr2,hs2,rfl⟩
         refine ga ?_
         refine j1 (_) ?_ (bb ln) (sub (aJ .nil) aj)
         exact⟨hr2,hs2⟩
        ·refine(Qa) ?_
         refine j1 (_) ?_ (bb ln) (sub (aJ .nil) aj)
         exact⟨dj.Rl.refl _ _ _,dj.Sd.join hPt.s1 hPt.s2 (fun i j i1 i2 j1 j2=>by omega)⟩
       ·refine(Qe) ?_
        refine j1 (_) ?_ (bb ln) (sub (aJ .nil) aj)
        exact⟨dj.Rl.refl _ _ _,dj.Sd.join hPt.s1 hPt.s2 (fun i j i1 i2 j1 j2=>by omega)⟩
      ·intro l2
       rintro⟨hR2,hS2⟩
       refine(Qf) ?_
       refine ev 209 rfl (fun h209=>?_) (fun h209=>?_)
       ·refine(Q1) ?_
        refine av rfl (fun h213=>?_) (fun h213=>?_)
        ·refine(Qf) ?_
         refine aQ (ih l2 bj e b omg omg omg omg (hR2.pd omg (hPt.rl.pd omg hpd)) (hPt.s3.congr (fun i i1 i2=>hR2.out i omg)) (hPt.s4.congr (fun i i1 i2=>hR2.out i omg))) V.FJ rfl (aJ .nil) rfl ?_
         rintro _ _ ⟨rfl,l3,hr3,o6,rfl⟩
         exact ga<|ik fI ⟨rfl,l3,hPt.rl.trans ((hR2.wide (Nat.le_refl _) omg).trans (hr3.wide omg (Nat.le_refl _))),dj.Sd.join (hS2.congr (fun i i1 i2=>hr3.out i omg)) o6 (dj.Cw (dj.rp hPt.cr hR2) hr3),rfl⟩ (sub (aJ .nil) aj)
        ·refine(Qa) ?_
         exact ik fI ⟨rfl,l2,hPt.rl.trans (hR2.wide (Nat.le_refl _) omg),dj.Sd.join hS2 (dj.Sd.join (hPt.s3.congr (fun i i1 i2=>hR2.out i omg)) (hPt.s4.congr (fun i i1 i2=>hR2.out i omg)) (fun i j i1 i2 j1 j2=>by omega)) (dj.rp hPt.cr hR2),rfl⟩ (sub (aJ .nil) aj)
       ·refine(Qe) ?_
        exact ik fI ⟨rfl,l2,hPt.rl.trans (hR2.wide (Nat.le_refl _) omg),dj.Sd.join hS2 (dj.Sd.join (hPt.s3.congr (fun i i1 i2=>hR2.out i omg)) (hPt.s4.congr (fun i i1 i2=>hR2.out i omg)) (fun i j i1 i2 j1 j2=>by omega)) (dj.rp hPt.cr hR2),rfl⟩ (sub (aJ .nil) aj)
def vE(p:Option Addr)(n cap:Nat)(cf:Nat)(fs cs:List Value)(S:ad)(key:Int→Int)(Pd:Int→Prop)(hb:az Tryz.prog cf=true)(hf:∀x y,Pd x→Pd y→aA Tryz.prog cf (fs++[I6 x,I6 y]++cs) [S] (aF fun v G=>v=I6 (nK (key x) (key y))∧G=[S]))(hn2:n≤1000000):∀(k:Nat) (l:List Int) (a m b:Nat),b-a≤k→a<m→m<b→b≤n→(∀i,i<n→Pd (l.getD i I3.d))→dj.Sd key I3.d l a m→dj.Sd key I3.d l m b→aA Tryz.prog 246 [.slice p n cap,I6 (a:Int),I6 (m:Int),I6 (b:Int),.func (.func cf) fs.toArray cs.toArray] [Row I3 p n cap (l),S] (aF fun v G=>v=.tuple #[]∧∃l2,dj.Rl key I3.d l l2 a b∧dj.Sd key I3.d l2 a b∧G=[Row I3 p n cap (l2),S])
 |0,l,a,m,b,hk,ham,hmb,hbn,hpd,h1,h2=>by omega
 |k+1,l,a,m,b,hk,ham,hmb,hbn,hpd,h1,h2=>Jb p n cap cf fs cs S key Pd hb hf l a m b ham hmb hbn hn2 hpd h1 h2 (fun l a2 m2 b2 hlt q1 q2 q3 q4 q5 q6=>vE p n cap cf fs cs S key Pd hb hf hn2 k l a2 m2 b2 omg q1 q2 q3 q4 q5 q6)

def GO(p:Option Addr)(n cap:Nat)(cf:Nat)(fs cs:List Value)(S:ad)(key:Int→Int)(Pd:Int→Prop)(hb:az Tryz.prog cf=true)(hf:∀x y,Pd x→Pd y→aA Tryz.prog cf (fs++[I6 x,I6 y]++cs) [S] (aF fun v G=>v=I6 (nK (key x) (key y))∧G=[S]))(l:List Int)(hn2:n≤1000000)(hpd:∀i,i<n→Pd (l.getD i I3.d)):aA Tryz.prog 229 [.slice p n cap,I6 (n:Int),.func (.func cf) fs.toArray cs.toArray] [Row I3 p n cap (l),S] (aF fun v G=>v=.tuple #[]∧∃l2,dj.Rl key I3.d l l2 0 n∧dj.Sd key I3.d l2 0 n∧G=[Row I3 p n cap (l2),S]):=by
 refine ao [(0,_),(1,_),(2,_)] Tryz.func229 rfl Tryz.ntmps229 rfl rfl ?_
 intro w0 F
 refine rT TT 14 rfl ?_
 refine gx (fun(A:Nat) (l1:List Int)=>[(0,.slice p n cap),(1,I6 (n:Int)),(2,.func (.func cf) fs.toArray cs.toArray),(6,I6 20),(7,I6 (A:Int)),(8,I6 ((20+A:Nat):Int))]) (fun(A:Nat) (l1:List Int)=>Row I3 p n cap (l1)::S::F) (fun(A:Nat) (l1:List Int)=>20∣A∧A≤n∧dj.Rl key I3.d l l1 0 n∧dj.Bd key I3.d l1 20 A) (fun(A:Nat) (l1:List Int)=>n-A) (i2 (0) (l) ?_ (iw (bb ln)) (sub (aJ .nil) aj)) ?_
 ·exact⟨Nat.dvd_zero _,Nat.zero_le _,dj.Rl.refl _ _ _,dj.Bd.zero _ _ dec⟩
 intro A l1
 rintro⟨hA,hAn,hR1,hBd⟩
 refine(nC) ?_
 refine av rfl (fun h13=>?_) (fun h13=>?_)
 ·refine(QJ) ?_
  refine aQ (tc p n cap cf fs cs S key Pd hb hf l1 _ _ A (20+A) rfl rfl omg omg hn2 (hR1.pd (Nat.le_refl _) hpd)) V.Vj rfl (aJ .nil) rfl ?_
  rintro _ _ ⟨rfl,l3,hr3,o6,rfl⟩
  refine(D4) ?_
  rw[show((20+A:Nat):Int)+20=((20+(20+A):Nat):Int) by omega]
  exact j2 (20+A) _ ⟨⟨omg,omg,hR1.trans (hr3.wide (Nat.zero_le _) omg),hBd.step hA hr3 o6⟩,omg⟩ (iw (bb ln)) (sub (aJ .nil) aj)
 ·refine(lW) ?_
  refine aQ (tc p n cap cf fs cs S key Pd hb hf l1 _ _ A n rfl rfl omg omg hn2 (hR1.pd (Nat.le_refl _) hpd)) V.Vj rfl (aJ .nil) rfl ?_
  rintro _ _ ⟨rfl,l3,hr3,o6,rfl⟩
  refine(Qc) ?_
  refine gx (fun(bs:Nat) (l1:List Int)=>[(0,.slice p n cap),(1,I6 (n:Int)),(2,.func (.func cf) fs.toArray cs.toArray),(6,I6 (bs:Int))]) (fun(bs:Nat) (l1:List Int)=>Row I3 p n cap (l1)::S::F) (fun(bs:Nat) (l1:List Int)=>0<bs∧dj.Rl key I3.d l l1 0 n∧dj.Bk key I3.d l1 bs n) (fun(bs:Nat) (l1:List Int)=>n-bs) (i2 (20) (_) ?_ (cK ln) (sub (aJ .nil) aj)) ?_
  ·exact⟨by decide,hR1.trans (hr3.wide (Nat.zero_le _) (Nat.le_refl _)),hBd.fin hA hAn omg hr3 o6⟩
  intro bs l1
  rintro⟨hbs,hR1,hBk⟩
  refine(nC) ?_
  refine av rfl (fun h30=>?_) (fun h30=>?_)
  ·refine mf TT 13 rfl omg ?_
   refine gx (fun(A:Nat) (l2:List Int)=>[(0,.slice p n cap),(1,I6 (n:Int)),(2,.func (.func cf) fs.toArray cs.toArray),(6,I6 (bs:Int)),(7,I6 (A:Int)),(8,I6 ((2*bs+A:Nat):Int))]) (fun(A:Nat) (l2:List Int)=>Row I3 p n cap (l2)::S::F) (fun(A:Nat) (l2:List Int)=>2*bs∣A∧A≤n∧dj.Rl key I3.d l l2 0 n∧dj.Bd key I3.d l2 (2*bs) A∧dj.Br key I3.d l2 bs n A) (fun(A:Nat) (l2:List Int)=>n-A) (i2 (0) (_) ?_ (iw (bb ln)) (sub (aJ .nil) aj)) ?_
   ·exact⟨Nat.dvd_zero _,Nat.zero_le _,hR1,dj.Bd.zero _ _ omg,hBk.br⟩
   intro A l2
   rintro⟨hA,hAn,hR2,hBd,hBr⟩
   refine(nC) ?_
   refine av rfl (fun h35=>?_) (fun h35=>?_)
   ·refine(EL) ?_
    refine aQ (vE p n cap cf fs cs S key Pd hb hf hn2 _ l2 A (A+bs) (2*bs+A) (Nat.le_refl _) omg omg omg (hR2.pd (Nat.le_refl _) hpd) (hBr.two hA omg).1 (hBr.two hA omg).2) V.FJ rfl (aJ .nil) rfl ?_
    rintro _ _ ⟨rfl,l3,hr3,o6,rfl⟩
    refine(w5) ?_
    rw[show((2*bs+A:Nat):Int)+2*(bs:Int)=((2*bs+(2*bs+A):Nat):Int) by omega]
    exact j2 (2*bs+A) _ ⟨⟨Nat.dvd_add (Nat.dvd_refl _) hA,omg,hR2.trans (hr3.wide (Nat.zero_le _) omg),hBd.step hA hr3 o6,hBr.step omg hr3⟩,omg⟩ (iw (bb ln)) (sub (aJ .nil) aj)
   ·refine mf TT 21 rfl omg ?_
    refine av rfl (fun h54=>?_) (fun h54=>?_)
    ·refine(Qf) ?_
     refine aQ (vE p n cap cf fs cs S key Pd hb hf hn2 _ l2 A (A+bs) n (Nat.le_refl _) omg omg omg (hR2.pd (Nat.le_refl _) hpd) (hBr.last hA omg omg).1 (hBr.last hA omg omg).2) V.FJ rfl (aJ .nil) rfl ?_
     rintro _ _ ⟨rfl,l3,hr3,o6,rfl⟩
     refine(QP) ?_
     rw[show(bs:Int)*2=((2*bs:Nat):Int) by omega]
     exact j2 (2*bs) _ ⟨⟨omg,hR2.trans (hr3.wide (Nat.zero_le _) (Nat.le_refl _)),hBd.fin hA omg omg hr3 o6⟩,omg⟩ (cK ln) (sub (aJ .nil) aj)
    ·refine(r9) ?_
     rw[show(bs:Int)*2=((2*bs:Nat):Int) by omega]
     exact j2 (2*bs) _ ⟨⟨omg,hR2,hBd.fin hA omg omg (dj.Rl.refl _ _ _) (hBr.one hA omg)⟩,omg⟩ (cK ln) (sub (aJ .nil) aj)
  ·refine(Q4) ?_
   exact ik fI ⟨rfl,l1,hR1,hBk.all omg,rfl⟩ (sub (aJ .nil) aj)
def Rp(p:Option Addr)(n cap:Nat)(cf:Nat)(fs cs:List Value)(S:ad)(key:Int→Int)(Pd:Int→Prop)(hb:az Tryz.prog cf=true)(hf:∀x y,Pd x→Pd y→aA Tryz.prog cf (fs++[I6 x,I6 y]++cs) [S] (aF fun v G=>v=I6 (nK (key x) (key y))∧G=[S]))(l:List Int)(hn2:n≤1000000)(hpd:∀i,i<n→Pd (l.getD i I3.d)):aA Tryz.prog 216 [.slice p n cap,.func (.func cf) fs.toArray cs.toArray] [Row I3 p n cap (l),S] (aF fun v G=>v=.tuple #[]∧∃l2,dj.Rl key I3.d l l2 0 n∧dj.Sd key I3.d l2 0 n∧G=[Row I3 p n cap (l2),S]):=by
 refine ao [(0,_),(1,_)] Tryz.func216 rfl Tryz.ntmps216 rfl rfl ?_
 intro w0 F
 refine(QV) ?_
 refine aQ (GO p n cap cf fs cs S key Pd hb hf l hn2 hpd) V.acW rfl (aJ .nil) rfl ?_
 rintro _ _ ⟨rfl,l3,hr3,o6,rfl⟩
 exact ga<|ik fI ⟨rfl,l3,hr3,o6,rfl⟩ (sub (aJ .nil) aj)
end Go.Proofs.YtmaiakpjgomnpaaGreat
namespace Go.Proofs.YtmaiakpjgomnpaaGreat
open Go.Sl 
def CM(x:Int):aA Tryz.prog 230 [I6 x] [] (aF fun v G=>v=.bool false∧G=[]):=by
 refine ao [(0,_)] Tryz.func230 rfl Tryz.ntmps230 rfl rfl ?_
 intro w0 F
 exact rT TT 14 rfl<|af (aw rfl) ⟨by simp,rfl⟩ (sub .nil aj)
def HK(x y:Int):aA Tryz.prog 218 [I6 x,I6 y] [] (aF fun v G=>v=I6 (nK x y)∧G=[]):=by
 refine ao [(0,_),(1,_)] Tryz.func218 rfl Tryz.ntmps218 rfl rfl ?_
 intro w0 F
 refine(QQ) ?_
 refine oC (CM x) V.Ut rfl .nil rfl<|(Q1) ?_
 refine oC (CM y) V.Ut rfl .nil rfl<|rO TT 29 rfl ?_
 refine av rfl (fun h16=>?_) (fun h16=>?_)
 ·refine(Qr) ?_
  exact af (aw rfl) ⟨by rw[nK,if_pos (by assumption)],rfl⟩ (sub .nil aj)
 ·refine(QN) ?_
  refine av rfl (fun h19=>?_) (fun h19=>?_)
  ·refine(Qr) ?_
   exact af (aw rfl) ⟨by rw[nK,if_neg (by assumption),if_pos omg],rfl⟩ (sub .nil aj)
  ·refine(pB) ?_
   exact af (aw rfl) ⟨by rw[nK,if_neg (by assumption),if_neg omg],rfl⟩ (sub .nil aj)
def Us(p:Option Addr)(n cap:Nat)(ls:List Int)(R:ad)(hR:∀w0 h,R w0 h→aE I3 p n ls w0 h)(bL:Nat)(x y:Int)(hx:0≤x∧x<n)(hy:0≤y∧y<n):aA Tryz.prog 217 [I6 x,I6 y,.pointer (soz bL)] [ai bL 47 [.slice p n cap],R] (aF fun v G=>v=I6 (nK (ls.getD x.toNat 0) (ls.getD y.toNat 0))∧G=[ai bL 47 [.slice p n cap],R]):=by
 refine ao [(0,_),(1,_),(2,_)] Tryz.func217 rfl Tryz.ntmps217 rfl rfl ?_
 intro w0 F
 refine(l6) ?_
 refine wN [pz 0 [] [2],pz 0 [] [0],pz 3 [0,1] [],pz 7 [2] [],pz 0 [] [2],pz 0 [] [1],pz 48 [4,5] [],pz 112 [6] [],pz 255 [3,7] [],pz 511 [8] []] [⟨fun y=>ai bL 47 [.slice p n cap],none,none,[0,4]⟩,⟨fun y=>R,none,none,[2,3,6,7]⟩] F V.mixed ?_
 refine(Vv) ?_
 refine nM ?_
 refine(Oj) ?_
 refine(NU) ?_
 refine(Vv) ?_
 refine nM ?_
 refine(Oj) ?_
 refine(NU) ?_
 refine nE (fun y FF hA=>aO (Post:=[]) (HK _ _) V.acV rfl .nil (fun v G h=>by rcases h with⟨rfl,rfl⟩;exact⟨rfl,.refl _⟩)) ?_
 refine nA ?_
 refine(Qi) ?_
 intro y hA
 clear hA
 refine bJ<|bW _ (.cons (d:=5) rfl (.nil _))<|bA (M:=ai bL 47 [.slice p n cap]::R::F) (fun _ _ h=>h)<|(Qa) ?_
 exact af (aw rfl) ⟨rfl,rfl⟩ (sub (aJ .nil) aj)
def Rz(C:List Int)(all:Int)(hl:C.length=16)(hC:∀i,0≤C.getD i 0∧C.getD i 0≤320):aA Tryz.prog 215 [.agg (ints .i64 C).toArray,I6 all] [] (aF fun v G=>v=.bool (ae.gT C all)∧G=[]):=by
 refine ao [(0,_),(1,_)] Tryz.func215 rfl Tryz.ntmps215 rfl rfl ?_
 intro w0 F
 refine(QK) ?_
 refine jg rfl (Az _ _) rfl ?_
 intro b2
 refine(QC) ?_
 refine cF (fun(k:Nat)=>[(1,I6 all),(2,.pointer (soz b2)),(5,I6 (ae.left C k)),(6,I6 ((k:Int)+1))]) (fun(k:Nat)=>ai b2 229 (CA [] .i64 C [])::F) (fun(k:Nat)=>k≤15∧∀m,1≤m→m≤k→0≤ae.left C m) (fun(k:Nat)=>15-k) (i1 (0) ?_ (cK ln) (sub (an .nil) aj)) ?_
 ·exact⟨omg,fun m h1 h2=>by omega⟩
 intro k
 rintro⟨hk,hno⟩
 have hcc:=hC ((k:Int)+1).toNat
 have hlb:=ae.wo (fun i=>(hC i).1) hk
 have hl0:=ae.EG hno
 have hlen:C.length=16:=hl
 refine(qP) ?_
 refine av rfl (fun h8=>?_) (fun h8=>?_)
 ·refine mf TT 9 rfl omg<|oV (bZ (k+1) rfl V.j0 rfl rfl omg)<|(Zy)<|(uM) ?_
  refine av rfl (fun h18=>?_) (fun h18=>?_)
  ·refine(lW) ?_
   exact af (aw rfl) ⟨by rw[ae.vH (n:=k+1) omg omg (by rw[←ae.nu];exact h18)],rfl⟩ (sub .nil bg)
  ·refine(r9) ?_
   have hno2:=ae.zC hno h18
   rw[ae.nu]
   exact j1 (k+1) ⟨⟨omg,hno2⟩,omg⟩ (cK ln) (sub (an .nil) aj)
 ·refine(QN) ?_
  refine ev 21 rfl (fun h21=>?_) (fun h21=>?_)
  ·refine(QO) ?_
   exact af (aw rfl) ⟨by rw[ae.ji hk h8 hno];(simp[h21];done),rfl⟩ (sub .nil bg)
  ·refine(Q7) ?_
   refine ev 25 rfl (fun h25=>?_) (fun h25=>?_)
   ·refine(Qy) ?_
    exact af (aw rfl) ⟨by rw[ae.ji hk h8 hno];(simp[h21,h25];done),rfl⟩ (sub .nil bg)
   ·refine(Qc) ?_
    refine ev 28 rfl (fun h28=>?_) (fun h28=>?_)
    ·refine(Q0) ?_
     refine oV (bZ 1 rfl V.j0 rfl rfl omg)<|(Q0)<|(Q6G)<|(Qd) ?_
     exact af (aw rfl) ⟨by rw[ae.ji hk h8 hno];(simp[h21,h25,h28];done),rfl⟩ (sub .nil bg)
    ·refine(Qn) ?_
     exact af (aw rfl) ⟨by rw[ae.ji hk h8 hno];(simp[h21,h25,h28];done),rfl⟩ (sub .nil bg)
end Go.Proofs.YtmaiakpjgomnpaaGreat
namespace Go.Proofs.YtmaiakpjgomnpaaGreat
open Go.Sl 
attribute [local irreducible] ae.ord ae.jf ae.df ae.bV ae.cU ae.words ae.fZ ae.lenOf ae.bp ae.left ae.gT

def Mo(p:Option Addr)(cap:Nat)(ls:List Int)(R:ad)(hR:∀w0 h,R w0 h→aE I3 p ls.length ls w0 h):aA Tryz.prog 195 [.slice p ls.length cap] [R] (aF fun v G=>(ae.bp ls=0∧∃b,v=.tuple #[.pointer (soz b),I6 0]∧G=[HC b ls,R])∨(ae.bp ls≠0∧v=.tuple #[.pointer none,I6 (ae.bp ls)]∧G=[R])):=by
 refine ao [(0,_)] Tryz.func195 rfl Tryz.ntmps195 rfl rfl ?_
 intro w0 F
 refine(QK)<|(wv) ?_
 intro b1
 refine(Qd) ?_
 refine oV (aB V.mj rfl ay rfl)<|(Q7) ?_
 refine av rfl (fun h13=>?_) (fun h13=>?_)
 ·refine(pB) ?_
  exact af (bR rfl rfl) (.inr ⟨by rw[ae.pD omg];decide,by rw[ae.pD omg],rfl⟩) (sub (.cons ar .nil) bg)
 ·refine(Q4) ?_
  refine oV (aB V.mj rfl ay rfl)<|(Na) ?_
  refine mL ls.length ls.length (sV) rfl rfl V.L3 V.Sh rfl rfl rfl rfl omg omg rfl rfl ?_
  intro nY
  refine oV (cE V.XZ V.acR rfl (cs:=[_,_,_,_,_,_,_,_,_,_,_,_,_,_,_,_,_,_,_]) rfl)<|jg rfl (show _=CA [.slice (soz nY) ls.length ls.length] .i64 (ae.bV (ls.take 0)) [.slice none (ae.df (ls.take 0)).length 0,I6 (ae.cU (ls.take 0))] from by rw[List.take_zero,ae.KI,ae.uZ,ae.LQ];rfl) rfl ?_
  intro r8
  refine(Q1)<|(Dd)<|(Q6) ?_
  refine gL (Row I3 none (ae.df (ls.take 0)).length 0 (ae.df (ls.take 0))) (by rw[List.take_zero,ae.uZ];exact Row.nil _ _ _) ?_
  refine dP (fun(k:Nat) (po:Option Addr) (co:Nat)=>[(1,.pointer (soz b1)),(4,.pointer (soz r8)),(19,.slice p ls.length cap),(20,I6 (ls.length:Int)),(21,I6 (k:Int))]) (fun(k:Nat) (po:Option Addr) (co:Nat)=>ai r8 275 (CA [.slice (soz nY) ls.length ls.length] .i64 (ae.bV (ls.take k)) [.slice po (ae.df (ls.take k)).length co,I6 (ae.cU (ls.take k))])::Row I3 po (ae.df (ls.take k)).length co (ae.df (ls.take k))::Row sV (soz nY) ls.length ls.length (List.replicate ls.length (0,0))::ai b1 47 [.slice p ls.length cap]::R::F) (fun(k:Nat) (po:Option Addr) (co:Nat)=>k≤ls.length∧∀i,i<k→0≤ls.getD i 0∧ls.getD i 0≤15) (fun(k:Nat) (po:Option Addr) (co:Nat)=>ls.length-k) (i3 (0) (none) (0) ?_ (bb ln) (sub (.cons ar (jm .nil)) aj)) ?_
  ·exact⟨omg,fun i hi=>by omega⟩
  intro k po co
  rintro⟨hk,hok⟩
  refine(Qs) ?_
  refine av rfl (fun h22=>?_) (fun h22=>?_)
  ·refine(Qr)<|(Tq)<|(Q1) ?_
   have hk2:k<ls.length:=omg
   have hg:I3.g ls (k:Int)=ls.getD k 0:=by simp[Ec.g]
   have hg2:ls.getD k 0=ls[k]:=by simp[hk2]
   have htk:(ls.take k).length=k:=by rw[List.length_take];omega
   have hcl:=ae.iL (ls.take k)
   have hcb:=ae.mm (ls:=ls.take k) omg (I3.g ls (k:Int)).toNat
   have hpl2:=ae.tQ (ls.take k)
   refine(Q4) ?_
   refine ev 28 rfl (fun h28=>?_) (fun h28=>?_)
   ·exact rO TT 19 rfl<|af (bR rfl rfl) (.inr ⟨by rw[ae.kG omg hk2 omg];decide,by rw[ae.kG omg hk2 omg],rfl⟩) (sub (.cons gW .nil) gF)
   ·refine(Q6) ?_
    refine av rfl (fun h31=>?_) (fun h31=>?_)
    ·refine(oZ) ?_
     exact af (bR rfl rfl) (.inr ⟨by rw[ae.kG omg hk2 omg];decide,by rw[ae.kG omg hk2 omg],rfl⟩) (sub (.cons gW .nil) gF)
    ·refine(pB) ?_
     refine av rfl (fun h33=>?_) (fun h33=>?_)
     ·refine(Qa) ?_
      refine wN [pz 0 [] [4],pz 0 [] [6],pz 1 [0] [],pz 5 [2] [],pz 15 [3,1] [],pz 31 [4] [],pz 63 [5] [],pz 1 [0] [],pz 129 [7] [],pz 511 [8,1] [],pz 1023 [9,6] []] [⟨fun y=>ai r8 275 (CA [.slice (soz nY) ls.length ls.length] .i64 (ae.bV (ls.take k)) [.slice po (ae.df (ls.take k)).length co,I6 (ae.cU (ls.take k))]),none,some 10,[5]⟩,⟨fun y=>Row I3 po (ae.df (ls.take k)).length co (ae.df (ls.take k)),none,none,[]⟩,⟨fun y=>Row sV (soz nY) ls.length ls.length (List.replicate ls.length (0,0)),none,none,[]⟩,⟨fun y=>ai b1 47 [.slice p ls.length cap],none,none,[]⟩,⟨fun y=>R,none,none,[]⟩,⟨fun y=>ai r8 275 (CA [.slice (soz nY) ls.length ls.length] .i64 ((ae.bV (ls.take k)).set (((I3.g ls (k:Int))).toNat) (((ae.bV (ls.take k)).getD (((I3.g ls (k:Int))).toNat) 0)+1)) [.slice po (ae.df (ls.take k)).length co,I6 (ae.cU (ls.take k))]),some 10,none,[]⟩] F V.mixed ?_
      iterate 2 refine nM ?_
      refine nN ?_
      refine nG V.AB ?_
      refine nV (fun y hA L=>bZ (((I3.g ls (k:Int))).toNat) omg V.j0 rfl rfl omg) ?_
      refine nR (fun y FF hA=>eh (I3.g ls (k:Int)) V.s3 rfl ay (by(simp only[List.length_cons,List.length_nil];omega)) omg omg) ?_
      refine nV (fun y hA L=>dw rfl rfl wI) ?_
      refine nN ?_
      refine nG V.AB ?_
      refine nV (fun y hA L=>bZ (((I3.g ls (k:Int))).toNat) omg V.j0 rfl rfl omg) ?_
      refine nE (fun y FF hA=>dm (om (I3.g ls (k:Int)) V.s3 rfl rfl (by exact ft) (by(simp only[List.length_cons,List.length_nil];omega)) omg omg) ⟨rfl,.refl _⟩) ?_
      refine cZ ?_
      intro y hA
      clear hA
      refine bJ<|bW _ (.cons (d:=1) rfl (.cons (d:=4) rfl (.cons (d:=5) rfl (.cons (d:=6) rfl (.cons (d:=19) rfl (.cons (d:=20) rfl (.cons (d:=21) rfl (.nil _))))))))<|bA (M:=Row I3 po (ae.df (ls.take k)).length co (ae.df (ls.take k))::Row sV (soz nY) ls.length ls.length (List.replicate ls.length (0,0))::ai b1 47 [.slice p ls.length cap]::R::ai r8 275 (CA [.slice (soz nY) ls.length ls.length] .i64 ((ae.bV (ls.take k)).set (((I3.g ls (k:Int))).toNat) (((ae.bV (ls.take k)).getD (((I3.g ls (k:Int))).toNat) 0)+1)) [.slice po (ae.df (ls.take k)).length co,I6 (ae.cU (ls.take k))])::F) (fun _ _ h=>h)<|(Qf) ?_
      refine oV (jJ (n:=16) 0 V.mj rfl ic (by(simp only[List.length_set];omega)) rfl rfl)<|(Q8) ?_
      refine cg (I3) [(k:Int)] V.cy V.z3 rfl rfl rfl rfl rfl rfl ?_
      intro VG
      refine(uK) ?_
      intro p51 c51
      refine(Q9) ?_
      refine cC (rf (n:=16) 0 V.mj rfl rfl rfl (by exact G7) (by(simp only[List.length_set];omega)) rfl (by exact Nat.le_of_ble_eq_true rfl) rfl)<|(Qd) ?_
      refine oV (jJ (n:=16) 1 V.s3 rfl wW (by(simp only[List.length_set];omega)) rfl rfl)<|(Q8) ?_
      refine oV (zJ rfl rfl)<|(Q9) ?_
      refine cC (rf (n:=16) 1 V.s3 rfl rfl rfl (by exact G7) (by(simp only[List.length_set];omega)) rfl (by exact Nat.le_of_ble_eq_true rfl) rfl)<|(Da) ?_
      have hok2:=ae.tH hok omg
      (obtain⟨e1,e2,e3,e4⟩:=ae.step_pos hk2 (hg.trans hg2) omg omg;rw[e1,e2,e3,e4];exact j3 (k+1) _ _ ⟨⟨omg,hok2⟩,omg⟩ (bb ln) (sub (.cons jX (an (.cons ar (.cons ar (.cons ar .nil))))) bg))
     ·refine(r3) ?_
      have hok2:=ae.tH hok omg
      (obtain⟨e1,e2,e3⟩:=ae.Je hk2 (hg.trans hg2) omg;rw[←e1,←e2,←e3];exact j3 (k+1) _ _ ⟨⟨omg,hok2⟩,omg⟩ (bb ln) (sub (iV .nil) aj))
  ·refine(Qr) ?_
   have hkn:k=ls.length:=omg
   subst hkn
   rw[List.take_length] at*
   have hvv:=ae.Ey hok (Nat.le_refl _)
   have hcl:=ae.iL ls
   have hE0:=ae.Eo omg hvv
   refine wN [pz 0 [] [4],pz 1 [0] [],pz 3 [1] [],pz 7 [2] [],pz 0 [] [4],pz 16 [4] [],pz 48 [5] [],pz 112 [6] [],pz 240 [7] [],pz 511 [3,8] [],pz 1023 [9] []] [⟨fun y=>ai r8 275 (CA [.slice (soz nY) ls.length ls.length] .i64 (ae.bV ls) [.slice po (ae.df ls).length co,I6 (ae.cU ls)]),none,none,[3,7]⟩,⟨fun y=>Row I3 po (ae.df ls).length co (ae.df ls),none,none,[]⟩,⟨fun y=>Row sV (soz nY) ls.length ls.length (List.replicate ls.length (0,0)),none,none,[]⟩,⟨fun y=>ai b1 47 [.slice p ls.length cap],none,none,[]⟩,⟨fun y=>R,none,none,[]⟩] F V.mixed<|nM<|nN<|nG V.AB<|nR (fun y FF hA=>zB V.a229 rfl ay omg rfl)<|nM<|nN<|nG V.W5<|nR (fun y FF hA=>jJ (n:=16) 0 V.mj rfl ay omg rfl rfl)<|nV (fun y hA L=>lA (ty':=0) Tryz.underlying47 rfl)<|nE (fun y FF hA=>aO (Post:=[]) (Rz (ae.bV ls) _ (ae.iL _) (ae.mm omg)) V.acB rfl .nil (fun v G h=>by rcases h with⟨rfl,rfl⟩;exact⟨rfl,.refl _⟩))<|nV (fun y hA L=>n8 rfl)<|(Qi) ?_
   intro y hA
   clear hA
   refine bJ<|bW _ (.cons (d:=1) rfl (.cons (d:=4) rfl (.cons (d:=74) rfl (.nil _))))<|bA (M:=ai r8 275 (CA [.slice (soz nY) ls.length ls.length] .i64 (ae.bV ls) [.slice po (ae.df ls).length co,I6 (ae.cU ls)])::Row I3 po (ae.df ls).length co (ae.df ls)::Row sV (soz nY) ls.length ls.length (List.replicate ls.length (0,0))::ai b1 47 [.slice p ls.length cap]::R::F) (fun _ _ h=>h) ?_
   refine wV rfl (fun h74=>?_) (fun h74=>?_)
   ·refine(Qa) ?_
    have hE:ae.bp ls=4:=by rw[hE0,if_neg (by simpa using h74)]
    refine(Qr) ?_
    exact af (bR rfl rfl) (.inr ⟨by rw[hE];decide,by rw[hE],rfl⟩) (sub (.cons gW .nil) gF)
   ·refine(Q3) ?_
    have hE:ae.bp ls=0:=by rw[hE0,if_pos (by simpa using h74)]
    have hV:=(ae.je hE).1
    have hW:=(ae.je hE).2
    have hpl:=ae.uX hV
    have hpn:=ae.tQ ls
    refine Wv (A:=[ai b1 47 [.slice p ls.length cap],R]) (.cons cB (.cons cB .nil))<|(Q4) ?_
    refine oV (jJ (n:=16) 0 V.mj rfl cX omg rfl rfl)<|oV (Fw (fs:=[]) (cs:=[_]) rfl rfl)<|aQ (Rp po (ae.df ls).length co 217 [] [.pointer (soz b1)] (tg [ai b1 47 [.slice p ls.length cap],R]) (ae.key ls) (fun x=>0≤x∧x<ls.length) V.abT (fun x y hx hy=>(Us p ls.length cap ls R hR b1 x y hx hy).star) (ae.df ls) omg (ae.Rt ls)) V.ab7 rfl (.cons aL (an .nil)) rfl ?_
    rintro _ _ ⟨rfl,l2,hR2,hS2,rfl⟩
    obtain rfl:=ae.Kl hvv hR2 hS2
    refine(Qc) ?_
    refine Ld ar ?_
    rw[hpl]
    refine(lW) ?_
    refine oV (jJ (n:=16) 0 V.mj rfl fX omg rfl rfl)<|(Q6) ?_
    rw[←ae.Cu]
    refine cF (fun(k:Nat)=>[(1,.pointer (soz b1)),(4,.pointer (soz r8)),(7,I6 (ae.Bf ls k)),(8,I6 (ae.py ls k)),(84,.slice po (ae.ord ls).length co),(85,I6 ((ae.ord ls).length:Int)),(86,I6 (k:Int))]) (fun(k:Nat)=>ai r8 275 (CA [.slice (soz nY) ls.length ls.length] .i64 (ae.bV ls) [.slice po (ae.ord ls).length co,I6 (ae.cU ls)])::Row I3 po (ae.ord ls).length co (ae.ord ls)::Row sV (soz nY) ls.length ls.length (ae.jf ls k)::ai b1 47 [.slice p ls.length cap]::R::F) (fun(k:Nat)=>k≤(ae.ord ls).length) (fun(k:Nat)=>(ae.ord ls).length-k) (i1 (0) ?_ (fF (bb ln)) (sub (.cons cB (.cons aL (.cons aL (aJ .nil)))) aj)) ?_
    ·exact Nat.zero_le _
    intro k
    rintro hk
    refine(Qs) ?_
    refine av rfl (fun h87=>?_) (fun h87=>?_)
    ·refine(Qb) ?_
     have hk2:k<(ae.ord ls).length:=omg
     obtain⟨s,hs⟩:=ae.acv hW hk2
     have hgs:I3.g (ae.ord ls) (k:Int)=(s:Int):=by rw[←hs.sym];simp[Ec.g]
     have hsl:=hs.lt
     refine(QF) ?_
     refine oV (xI V.cy (own cX))<|oV (xL V.s3 (own cX))<|(Q7) ?_
     rw[hgs]
     have hls:I3.g ls (s:Int)=(ae.lenOf ls s:Int):=by rw[←hs.len];simp[Ec.g]
     have hs1:=hs.top
     have hs2:=hs.nn
     have o6:=hs.ge
     have hs4:=hs.w0
     have hs5:ae.fZ ls s<32768:=by have:=ae.oT hs.top;have:=hs.w1;omega
     refine(Q5) ?_
     refine oV (aB V.mj rfl fX rfl)<|(Q8)<|(Tq)<|(o7) ?_
     refine oV (fk (r:=ae.fZ ls s) rfl rfl omg (Ly hs hls))<|(Q6) ?_
     refine oV (aB V.mj rfl fX rfl)<|(Q8)<|(Tq)<|(Q7) ?_
     rw[hls]
     refine(Q4) ?_
     refine oV (aB V.aci rfl ay rfl)<|(Qc) ?_
     refine oV (cE V.XK V.Sh rfl (cs:=[_,_]) rfl)<|oV (xI V.L3 (own dz))<|cC (LY (c:=(sV)) ((ae.fZ ls s,(ae.lenOf ls s:Int))) V.ace rfl rfl (by exact xr) omg omg rfl)<|(ES) ?_
     have en:ae.fZ ls s+1=ae.Bf ls (k+1):=by simp only[ae.Bf];rw[hs.sym];simp
     have el:(ae.lenOf ls s:Int)=ae.py ls (k+1):=by simp only[ae.py];rw[hs.sym];simp
     rw[Int.toNat_natCast,←ae.Cy hk2 hs,en,el]
     refine j1 (k+1) ?_ (fF (bb ln)) (sub (iV .nil) aj)
     exact⟨omg,omg⟩
    ·refine(oZ) ?_
     exact af (bR rfl rfl) (.inl ⟨hE,r8,rfl,rfl⟩) ((aS (an (.cons ar (.cons dJ .nil))) aj (fun w0 h hh=>rD (ae.Fi hV omg) hh)).trans (sub (an (.cons ar .nil)) bg))
end Go.Proofs.YtmaiakpjgomnpaaGreat
namespace Go.Proofs.YtmaiakpjgomnpaaGreat
open Go.Sl 
def pX(p:Option Addr)(cap:Nat)(B:List Int)(R:ad)(hR:∀w0 h,R w0 h→aE U5 p B.length B w0 h)(hl:B.length<500000000):aA Tryz.prog 91 [.slice p B.length cap] [R] (aF fun v G=>∃q c,v=.slice q B.length c∧G=[Row U5 q B.length c B,R]):=by
 refine ao [(0,_)] Tryz.func91 rfl Tryz.ntmps91 rfl rfl ?_
 intro w0 F
 refine fe (fun w hi=>Vd (List.mem_cons_self ..) hR hi) (fun hp=>?_)
 refine(mz) ?_
 refine oV (Lb Tryz.underlying22 rfl rfl)<|(Q9) ?_
 refine wV rfl (fun h4=>?_) (fun h4=>?_)
 ·refine(Qr) ?_
  obtain rfl:p=none:=by cases p with|none=>rfl|some _=>simp at h4
  obtain rfl:B=[]:=hp rfl
  exact af (aw rfl) ⟨none,0,rfl,rfl⟩ ((bH (fun w0=>Row.nil _ _ _)).trans (sub (aJ .nil) aj))
 ·refine(Q4) ?_
  refine cg (U5) [] V.bT V.z5 rfl rfl rfl rfl rfl rfl ?_
  intro b5
  refine(Q8) ?_
  refine ei (c:=(U5)) V.bT V.z5 rfl rfl rfl rfl dJ (by exact bK hR cX) omg rfl ?_
  intro p7 c7
  refine(Q7) ?_
  exact af (aw rfl) ⟨p7,c7,by rw[Nat.zero_add],by rw[Nat.zero_add,List.nil_append]⟩ (sub (aJ .nil) aj)
def Ad(b:Nat)(B:List Int)(at_:Nat)(out:List Int)(free:Int)(hl:B.length<500000000)(ha:at_≤8*B.length):aA Tryz.prog 128 [.pointer (soz b)] [LW b B at_ out free] (aF fun v G=>v=I6 (8*(B.length:Int)-(at_:Int))∧G=[LW b B at_ out free]):=by
 refine ao [(0,_)] Tryz.func128 rfl Tryz.ntmps128 rfl rfl ?_
 intro w0 F
 refine(r1) ?_
 rintro⟨p1,c1,p2,c2⟩ _
 dsimp only
 refine(l6) ?_
 refine wN [pz 0 [] [0],pz 1 [0] [],pz 3 [1] [],pz 7 [2] [],pz 15 [3] [],pz 31 [4] [],pz 0 [] [0],pz 64 [6] [],pz 192 [7] [],pz 448 [8] [],pz 1023 [5,9] [],pz 2047 [10] []] [⟨fun y=>ai b 236 [.slice p1 B.length c1,.slice p2 out.length c2,I6 (at_:Int),I6 free],none,none,[3,9]⟩,⟨fun y=>Row U5 p1 B.length c1 B,none,none,[]⟩,⟨fun y=>Row U5 p2 out.length c2 out,none,none,[]⟩] F V.mixed ?_
 refine nM ?_
 refine nN ?_
 refine nG V.Ij ?_
 refine(qJ) ?_
 refine(yQ) ?_
 refine(w4) ?_
 refine nM ?_
 refine nN ?_
 refine nG V.Cq ?_
 refine(Qz) ?_
 refine(vW) ?_
 refine nA ?_
 refine(Qi) ?_
 intro y hA
 clear hA
 refine bJ ?_
 refine(Hx) ?_
 refine(Q6I) ?_
 refine(Qa) ?_
 exact af (aw rfl) ⟨rfl,rfl⟩ (aS (dV .nil) aj (fun w0 h hh=>rb hh))
def X7(b:Nat)(B:List Int)(at_:Nat)(out:List Int)(free:Int)(n:Int)(hl:B.length<500000000)(ha:at_≤8*B.length)(hn:0≤n∧n≤24∧n≤8*(B.length:Int)-at_):aA Tryz.prog 92 [.pointer (soz b),I6 n] [LW b B at_ out free] (aF fun v G=>v=.tuple #[]∧G=[LW b B at_ out free]):=by
 refine(V5) ?_
 intro w0 F
 refine rT TT 3 rfl ?_
 refine oV (bC (dD rfl rfl) omg) ?_
 refine rO TT 2 rfl ?_
 refine bB rfl ?_
 refine oV (bC (cR rfl rfl) omg) ?_
 refine rO TT 4 rfl ?_
 refine bB rfl ?_
 refine oC (Ad b B at_ out free hl ha) V.FO rfl (an .nil) rfl ?_
 refine bB rfl ?_
 refine oV (bC (cR rfl rfl) omg) ?_
 refine rO TT 5 rfl ?_
 exact ik fI ⟨rfl,rfl⟩ (sub (an .nil) aj)
def TI(b:Nat)(B:List Int)(at_:Nat)(out:List Int)(free:Int)(n:Int)(hl:B.length<500000000)(ha:at_≤8*B.length)(hn:0≤n∧n≤24∧8*(B.length:Int)-at_<n):aA Tryz.prog 92 [.pointer (soz b),I6 n] [LW b B at_ out free] (uD fun ch G=>ch=ku 194 (.agg #[])∧G=[LW b B at_ out free]):=by
 refine(V5) ?_
 intro w0 F
 refine rT TT 3 rfl ?_
 refine oV (bC (dD rfl rfl) omg) ?_
 refine rO TT 2 rfl ?_
 refine bB rfl ?_
 refine oV (bC (cR rfl rfl) omg) ?_
 refine rO TT 4 rfl ?_
 refine bB rfl ?_
 refine oC (Ad b B at_ out free hl ha) V.FO rfl (an .nil) rfl ?_
 refine bB rfl ?_
 refine oV (bQ (cR rfl rfl) omg) ?_
 refine rO TT 5 rfl ?_
 refine oV (cE V.Xw V.z194 rfl (cs:=[]) rfl) ?_
 refine oV (ya V.EZ rfl) ?_
 refine xV rfl ?_
 skip
 exact Be (G:=[LW b B at_ out free]) ⟨rfl,rfl⟩ (sub (an .nil) aj)
def We(b:Nat)(B:List Int)(at_:Nat)(out:List Int)(free:Int)(hl:B.length<500000000)(hB:ag.aq B)(ha:at_<8*B.length):aA Tryz.prog 204 [.pointer (soz b)] [LW b B at_ out free] (aF fun v G=>v=I6 (ag.iF B at_)∧G=[LW b B (at_+1) out free]):=by
 refine ao [(0,_)] Tryz.func204 rfl Tryz.ntmps204 rfl rfl ?_
 intro w0 F
 refine(r1) ?_
 rintro⟨p1,c1,p2,c2⟩ _
 dsimp only
 have hq:U5.g B ((at_:Int)/8)=B.getD (at_/8) 0:=gE (at_/8) omg
 have hb:=hB.get (at_/8)
 have hd:=ag.rB hb.1 hb.2 (at_%8)
 have hb2:=ag.kY B at_
 refine(l6) ?_
 refine wN [pz 0 [] [0],pz 1 [0] [],pz 3 [1] [],pz 7 [2] [],pz 15 [3] [],pz 0 [] [0],pz 32 [5] [],pz 96 [6] [],pz 224 [7] [],pz 480 [8] [],pz 992 [9] [],pz 2047 [4,10] [],pz 4095 [11] [],pz 0 [] [0],pz 8192 [13] [],pz 24576 [14] [],pz 57344 [15] [],pz 122880 [16] [],pz 253952 [17] [],pz 524287 [12,18] [],pz 1048575 [19] []] [⟨fun y=>ai b 236 [.slice p1 B.length c1,.slice p2 out.length c2,I6 (at_:Int),I6 free],none,none,[4,9,17]⟩,⟨fun y=>Row U5 p1 B.length c1 B,none,none,[11,12]⟩,⟨fun y=>Row U5 p2 out.length c2 out,none,none,[]⟩] F V.mixed ?_
 refine nM ?_
 refine nN ?_
 refine nG V.BJ ?_
 refine nG V.Ij ?_
 refine(qJ) ?_
 refine nM ?_
 refine nN ?_
 refine nG V.BJ ?_
 refine nG V.Cq ?_
 refine(Qz) ?_
 refine(yC) ?_
 refine(Ia) ?_
 refine(Ho) ?_
 refine nM ?_
 refine nN ?_
 refine nG V.BJ ?_
 refine nG V.Cq ?_
 refine(Qz) ?_
 refine(Vz) ?_
 refine nV (fun y hA L=>eF (r:=B.getD (at_/8) 0/2^(at_%8)) rfl rfl omg (by rw[hq];exact ag.EW hb.1 omg omg)) ?_
 refine nA ?_
 refine(Qi) ?_
 intro y hA
 clear hA
 refine bJ<|(Up)<|(Q6I)<|(Qf)<|(Ql)<|(uw)<|(m9)<|(Q6) ?_
 refine oV (iT (r:=ag.iF B at_) rfl rfl (ag.Cl hd.1 hd.2))<|(mi)<|(Q7) ?_
 rw[show(at_:Int)+1=((at_+1:Nat):Int) from by omega]
 exact af (aw rfl) ⟨rfl,rfl⟩ (aS (dV .nil) aj (fun w0 h hh=>rb hh))
def fQ(b:Nat)(B:List Int)(at_:Nat)(out:List Int)(free:Int)(n:Nat)(hl:B.length<500000000)(hB:ag.aq B)(hn:n≤24)(ha:at_+n≤8*B.length):aA Tryz.prog 183 [.pointer (soz b),I6 (n:Int)] [LW b B at_ out free] (aF fun v G=>v=I6 (ag.aG B at_ n)∧G=[LW b B (at_+n) out free]):=by
 refine ao [(0,_),(1,_)] Tryz.func183 rfl Tryz.ntmps183 rfl rfl ?_
 intro w0 F
 refine rT TT 11 rfl<|oC (X7 b B at_ out free n hl omg omg) V.Vc rfl (an .nil) rfl<|(QC) ?_
 refine cF (fun(k:Nat)=>[(0,.pointer (soz b)),(5,I6 (ag.aG B at_ k)),(12,I6 (n:Int)),(13,I6 (k:Int))]) (fun(k:Nat)=>LW b B (at_+k) out free::F) (fun(k:Nat)=>k≤n) (fun(k:Nat)=>n-k) (i1 (0) ?_ (cK ln) (sub (an .nil) aj)) ?_
 ·exact Nat.zero_le _
 intro k
 rintro hk
 refine(Qs) ?_
 refine av rfl (fun h14=>?_) (fun h14=>?_)
 ·refine(QN) ?_
  have hb:=ag.kY B (at_+k)
  have hnb:=ag.aX B at_ k
  refine(Q3) ?_
  refine oC (We b B (at_+k) out free hl hB omg) V.acu rfl (an .nil) rfl<|(Q8)<|(Q6J)<|(Y5)<|(QP) ?_
  refine j1 (k+1) ?_ (cK ln) (sub (an .nil) aj)
  exact⟨omg,omg⟩
 ·refine(qG) ?_
  obtain rfl:k=n:=omg
  exact af (aw rfl) ⟨rfl,rfl⟩ (sub (an .nil) aj)
def gw(b:Nat)(B:List Int)(at_:Nat)(out:List Int)(free:Int)(n:Nat)(hl:B.length<500000000)(hB:ag.aq B)(hn:n≤24)(ha:at_≤8*B.length)(hx:8*B.length<at_+n):aA Tryz.prog 183 [.pointer (soz b),I6 (n:Int)] [LW b B at_ out free] (uD fun ch G=>ch=ku 194 (.agg #[])∧G=[LW b B at_ out free]):=by
 refine ao [(0,_),(1,_)] Tryz.func183 rfl Tryz.ntmps183 rfl rfl ?_
 intro w0 F
 refine rT TT 11 rfl<|dY (TI b B at_ out free n hl ha omg) V.Vc rfl (an .nil) ?_
 rintro _ _ ⟨rfl,rfl⟩
 refine(dK ?_)
 exact Be (G:=[LW b B at_ out free]) ⟨rfl,rfl⟩ (sub (an .nil) aj)
def V9(b:Nat)(B:List Int)(at_:Nat)(out:List Int)(free:Int)(hl:B.length<500000000)(ha:at_≤8*B.length):aA Tryz.prog 170 [.pointer (soz b)] [LW b B at_ out free] (aF fun v G=>v=I6 (8*(B.length:Int)-(at_:Int))∧G=[LW b B at_ out free]):=by
 refine ao [(0,_)] Tryz.func170 rfl Tryz.ntmps170 rfl rfl ?_
 intro w0 F
 refine(mz)<|(Jl)<|(Qg)<|(Q5b)<|(Q7) ?_
 exact af (aw rfl) ⟨rfl,rfl⟩ (sub (an .nil) aj)
def JV(p:Option Addr)(cap:Nat)(B:List Int)(R:ad)(hR:∀w0 h,R w0 h→aE U5 p B.length B w0 h)(hl:B.length<500000000):aA Tryz.prog 166 [.slice p B.length cap] [R] (aF fun v G=>∃b,v=.pointer (soz b)∧G=[LW b B 0 [] 0,R]):=by
 refine ao [(0,_)] Tryz.func166 rfl Tryz.ntmps166 rfl rfl ?_
 intro w0 F
 refine(QQ) ?_
 refine aQ (pX p cap B R hR hl) V.EH rfl (an .nil) rfl ?_
 rintro _ _ ⟨q,c,rfl,rfl⟩
 refine(Q6L) ?_
 refine oV (cE V.XC V.z236 rfl (cs:=[.slice q B.length c,.slice none 0 0,I6 0,I6 0]) rfl)<|(Q6M) ?_
 intro b7
 refine(Q7) ?_
 exact af (aw rfl) ⟨b7,rfl,rfl⟩ ((bH (A:=Row U5 none 0 0 []) (fun w0=>Row.nil _ _ _)).trans ((aS (.cons ar (.cons ar (an .nil))) aj (fun w0 h hh=>rb (p1:=q) (c1:=c) (p2:=none) (c2:=0) (B:=B) (out:=[]) (at_:=0) (free:=0) hh)).trans (sub (aJ .nil) aj)))
end Go.Proofs.YtmaiakpjgomnpaaGreat
namespace Go.Proofs.YtmaiakpjgomnpaaGreat
open Go.Sl 
def tA(b:Nat)(p:Option Addr)(cap:Nat)(B:List Int)(R:ad)(hR:∀w0 h,R w0 h→aE U5 p B.length B w0 h)(at_:Nat)(sh:Bool)(hl:B.length<500000000)(ha:at_≤8*B.length):aA Tryz.prog 122 [.pointer (soz b)] [ai b 151 [.slice p B.length cap,I6 (at_:Int),.bool false,.bool sh],R] (aF fun v G=>v=I6 (8*(B.length:Int)-(at_:Int))∧G=[ai b 151 [.slice p B.length cap,I6 (at_:Int),.bool false,.bool sh],R]):=by
 refine ao [(0,_)] Tryz.func122 rfl Tryz.ntmps122 rfl rfl ?_
 intro w0 F
 refine(l6) ?_
 refine wN [pz 0 [] [0],pz 1 [0] [],pz 3 [1] [],pz 7 [2] [],pz 15 [3] [],pz 31 [4] [],pz 0 [] [0],pz 64 [6] [],pz 192 [7] [],pz 448 [8] [],pz 1023 [5,9] [],pz 2047 [10] []] [⟨fun y=>ai b 151 [.slice p B.length cap,I6 (at_:Int),.bool false,.bool sh],none,none,[3,9]⟩,⟨fun y=>R,none,none,[]⟩] F V.mixed ?_
 refine nM ?_
 refine nN ?_
 refine nG V.H5 ?_
 refine(qJ) ?_
 refine(yQ) ?_
 refine(w4) ?_
 refine nM ?_
 refine nN ?_
 refine nG V.sM ?_
 refine(Qz) ?_
 refine(vW) ?_
 refine nA ?_
 refine(Qi) ?_
 intro y hA
 clear hA
 refine bJ ?_
 refine(Hx) ?_
 refine(Zv) ?_
 refine(Qa) ?_
 exact af (aw rfl) ⟨rfl,rfl⟩ (sub (aJ .nil) aj)
def YM(b:Nat)(p:Option Addr)(cap:Nat)(B:List Int)(R:ad)(hR:∀w0 h,R w0 h→aE U5 p B.length B w0 h)(at_:Nat)(sh:Bool)(hl:B.length<500000000)(hB:ag.aq B)(ha:at_<8*B.length):aA Tryz.prog 127 [.pointer (soz b)] [ai b 151 [.slice p B.length cap,I6 (at_:Int),.bool false,.bool sh],R] (aF fun v G=>v=I6 (ag.iF B at_)∧G=[ai b 151 [.slice p B.length cap,I6 ((at_+1:Nat):Int),.bool false,.bool sh],R]):=by
 refine ao [(0,_)] Tryz.func127 rfl Tryz.ntmps127 rfl rfl ?_
 intro w0 F
 have hq:U5.g B ((at_:Int)/8)=B.getD (at_/8) 0:=gE (at_/8) omg
 have hb:=hB.get (at_/8)
 have hd:=ag.rB hb.1 hb.2 (at_%8)
 have hb2:=ag.kY B at_
 refine(l6) ?_
 refine wN [pz 0 [] [0],pz 1 [0] [],pz 3 [1] [],pz 7 [2] [],pz 0 [] [0],pz 16 [4] [],pz 48 [5] [],pz 112 [6] [],pz 240 [7] [],pz 511 [3,8] [],pz 1023 [9] [],pz 2047 [10] []] [⟨fun y=>ai b 151 [.slice p B.length cap,I6 (at_:Int),.bool false,.bool sh],none,none,[3,7]⟩,⟨fun y=>R,none,none,[9,10]⟩] F V.mixed ?_
 refine nM ?_
 refine nN ?_
 refine nG V.H5 ?_
 refine(qJ) ?_
 refine nM ?_
 refine nN ?_
 refine nG V.sM ?_
 refine(Qz) ?_
 refine(yC) ?_
 refine(Q43) ?_
 refine(Q44) ?_
 refine nA ?_
 refine(Qi) ?_
 intro y hA
 clear hA
 refine bJ<|(Up)<|(Zv)<|(Qb)<|(Ql)<|(oU)<|(sk)<|(Qn)<|(nP)<|(Qg)<|(Ql)<|(xl)<|(m9)<|(Qc) ?_
 rw[hq]
 refine(Q3) ?_
 refine oV (eF (r:=B.getD (at_/8) 0/2^(at_%8)) rfl rfl omg (ag.EW hb.1 omg omg)) ?_
 refine(mi) ?_
 refine oV (iT (r:=ag.iF B at_) rfl rfl (ag.zp hd.1 omg)) ?_
 refine(Q7) ?_
 rw[show(at_:Int)+1=((at_+1:Nat):Int) from by omega]
 exact af (aw rfl) ⟨rfl,rfl⟩ (sub (aJ .nil) aj)
def jk(b:Nat)(p:Option Addr)(cap:Nat)(B:List Int)(R:ad)(hR:∀w0 h,R w0 h→aE U5 p B.length B w0 h)(at_:Nat)(sh:Bool)(n:Nat)(hl:B.length<500000000)(hB:ag.aq B)(hn:n≤24)(ha:at_+n≤8*B.length):aA Tryz.prog 89 [.pointer (soz b),I6 (n:Int)] [ai b 151 [.slice p B.length cap,I6 (at_:Int),.bool false,.bool sh],R] (aF fun v G=>v=.tuple #[I6 (ag.aG B at_ n),.bool true]∧G=[ai b 151 [.slice p B.length cap,I6 ((at_+n:Nat):Int),.bool false,.bool sh],R]):=by
 refine(Wc) ?_
 intro w0 F
 refine(uL) ?_
 refine(QL) ?_
 refine(Q9) ?_
 refine(Q0) ?_
 refine(Qo) ?_
 refine(Qc) ?_
 refine(Q0) ?_
 refine(Zr) ?_
 refine(Q0) ?_
 refine(Q8) ?_
 refine(Q0) ?_
 refine(QL) ?_
 refine(qK) ?_
 refine cF (fun(k:Nat)=>[(0,.pointer (soz b)),(1,I6 (n:Int)),(6,I6 (ag.aG B at_ k)),(7,I6 (k:Int))]) (fun(k:Nat)=>ai b 151 [.slice p B.length cap,I6 ((at_+k:Nat):Int),.bool false,.bool sh]::R::F) (fun(k:Nat)=>k≤n) (fun(k:Nat)=>n-k) (i1 (0) ?_ (cK ln) (sub (aJ .nil) aj)) ?_
 ·exact Nat.zero_le _
 intro k
 rintro hk
 refine(nC) ?_
 refine av rfl (fun h25=>?_) (fun h25=>?_)
 ·refine(QJ)<|(nP)<|(Qc) ?_
  have hb:=ag.kY B (at_+k)
  have hnb:=ag.aX B at_ k
  refine(Q3) ?_
  refine oC (YM b p cap B R hR (at_+k) sh hl hB omg) V.Aj rfl (aJ .nil) rfl<|(Q8)<|(sk)<|(Q6J)<|(Y5)<|(QU) ?_
  refine j1 (k+1) ?_ (cK ln) (sub (aJ .nil) aj)
  exact⟨omg,omg⟩
 ·refine(oZ) ?_
  obtain rfl:k=n:=omg
  exact af (bR rfl rfl) ⟨rfl,rfl⟩ (sub (aJ .nil) aj)
def qb(b:Nat)(p:Option Addr)(cap:Nat)(B:List Int)(R:ad)(hR:∀w0 h,R w0 h→aE U5 p B.length B w0 h)(at_:Nat)(sh:Bool)(n:Nat)(hl:B.length<500000000)(hB:ag.aq B)(hn:n≤24)(ha:at_≤8*B.length)(hx:8*B.length<at_+n):aA Tryz.prog 89 [.pointer (soz b),I6 (n:Int)] [ai b 151 [.slice p B.length cap,I6 (at_:Int),.bool false,.bool sh],R] (aF fun v G=>v=.tuple #[I6 0,.bool false]∧G=[ai b 151 [.slice p B.length cap,I6 (at_:Int),.bool false,.bool true],R]):=by
 refine(Wc) ?_
 intro w0 F
 refine(uL) ?_
 refine(QL) ?_
 refine(Q9) ?_
 refine(Q0) ?_
 refine(Qo) ?_
 refine(Qc) ?_
 refine(Q0) ?_
 refine(Zr) ?_
 refine(Q0) ?_
 refine(Q8) ?_
 refine(Q0) ?_
 refine(QG) ?_
 refine(Qn) ?_
 refine(Cd) ?_
 refine(Qg) ?_
 exact af (bR rfl rfl) ⟨rfl,rfl⟩ (sub (aJ .nil) aj)
end Go.Proofs.YtmaiakpjgomnpaaGreat

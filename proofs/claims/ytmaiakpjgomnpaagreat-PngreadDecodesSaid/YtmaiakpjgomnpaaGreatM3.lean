/- Walks of functions that the law reaches, and what they lean on; no conditions. -/
import Derived.Test.YtmaiakpjgomnpaaGreatM2
set_option linter.defProp false
set_option maxHeartbeats 16000000
set_option maxRecDepth 100000
set_option linter.unusedVariables false
set_option linter.unusedSimpArgs false
set_option maxRecDepth 100000
namespace Go.ae
open Go.dj
abbrev key (ls:List Int) (x:Int):Int:=ls.getD x.toNat 0
def LR(l:List Nat)(q:Nat→Bool)(p:Int→Bool):((l.filter q).map (fun i:Nat=>(i:Int))).filter p=(l.filter (fun i=>q i&&p (i:Int))).map (fun i:Nat=>(i:Int)):=by
 rw[List.filter_map,List.filter_filter]
 congr 2
 funext i
 simp[Bool.and_comm]
def Lq(ls:List Int)(m:Nat)(c:Int):(cls ls m).filter (fun x=>decide (key ls x=c))=if(m:Int)=c then cls ls m else []:=by
 by_cases h:(m:Int)=c
 ·rw[if_pos h,List.filter_eq_self]
  intro x hx
  have:=(km.1 hx).2.2
  simpa[h] using this.trans h
 ·rw[if_neg h,List.filter_eq_nil_iff]
  intro x hx
  have:=(km.1 hx).2.2
  simp only[decide_eq_true_eq]
  intro e
  exact h (this.symm.trans e)
def Cp(ls:List Int)(c:Int):∀n:Nat,(dW ls n).filter (fun x=>decide (key ls x=c))=if 1≤c∧c≤(n:Int) then cls ls c.toNat else []
 |0=>by rw[if_neg omg];rfl
 |n+1=>by
  simp only[dW]
  rw[List.filter_append,Cp ls c n,Lq]
  by_cases h:((n+1:Nat):Int)=c
  ·rw[if_neg omg,if_pos h,if_pos omg,List.nil_append,←h]
   rfl
  ·rw[if_neg h,List.append_nil]
   by_cases h2:1≤c∧c≤(n:Int)
   ·rw[if_pos h2,if_pos omg]
   ·rw[if_neg h2,if_neg omg]
def HS{ls:List Int}(hv:∀x∈ls,0≤x∧x≤15)(c:Int):(df ls).filter (fun x=>decide (key ls x=c))=if 1≤c∧c≤15 then cls ls c.toNat else []:=by
 unfold df
 rw[LR]
 by_cases h:1≤c∧c≤15
 ·rw[if_pos h]
  unfold cls
  congr 1
  apply List.filter_congr
  intro i hi
  simp only[key,Int.toNat_natCast]
  by_cases e:ls.getD i 0=c
  ·have e2:ls.getD i 0=((c.toNat:Nat):Int):=omg
   have e3:0<ls.getD i 0:=omg
   simp only[e,e2,decide_true,Bool.and_true,decide_eq_true_eq]
   simp;omega
  ·have e2:¬ls.getD i 0=((c.toNat:Nat):Int):=omg
   rw[decide_eq_false e,decide_eq_false e2,Bool.and_false]
 ·rw[if_neg h]
  simp only[List.map_eq_nil_iff]
  rw[List.filter_eq_nil_iff]
  intro i hi hp
  have hi:=List.mem_range.1 hi
  simp only[key,Int.toNat_natCast,Bool.and_eq_true,decide_eq_true_eq] at hp
  have:=hv (ls.getD i 0) (by simp[List.getD_eq_getElem?_getD,hi])
  omega
def Tn(ls:List Int):Sd (key ls) 0 (ord ls) 0 (ord ls).length:=by
 have:∀n,Sd (key ls) 0 (dW ls n) 0 (dW ls n).length∧∀x∈dW ls n,key ls x≤(n:Int):=by
  intro n
  induction n with
  |zero=>exact⟨Sd.small (by simp[dW]),fun x hx=>by simp[dW] at hx⟩
  |succ n ih=>
   have hle:∀x∈dW ls n,key ls x≤(n:Int):=ih.2
   have hcl:∀x∈cls ls (n+1),key ls x=((n+1:Nat):Int):=fun x hx=>(km.1 hx).2.2
   refine⟨?_,?_⟩
   ·simp only[dW,List.length_append]
    refine Sd.join (m:=(dW ls n).length) ?_ ?_ ?_
    ·exact ih.1.congr (fun i _ h=>cI h)
    ·intro i j i1 i2 i3
     rw[dN i1,dN omg,hcl _ (fN omg),hcl _ (fN omg)]
     exact Int.le_refl _
    ·intro i j i1 i2 i3 i4
     rw[cI i2,dN i3,hcl _ (fN omg)]
     have:=hle _ (fN (d:=0) i2)
     omega
   ·intro x hx
    simp only[dW,List.mem_append] at hx
    rcases hx with hx|hx
    ·have:=hle x hx;omega
    ·have:=hcl x hx;omega
 exact(this 15).1
def Kl{ls l2:List Int}(hv:∀x∈ls,0≤x∧x≤15)(hR:Rl (key ls) 0 (df ls) l2 0 (df ls).length)(hS:Sd (key ls) 0 l2 0 (df ls).length):l2=ord ls:=by
 refine unique (d:=0) (by rw[hR.len];exact hS) (Tn ls) (fun c=>?_)
 rw[hR.same c,HS hv]
 unfold ord
 rw[Cp]
 rfl
def A7{ls:List Int}{x:Int}:x∈df ls↔0≤x∧x.toNat<ls.length∧0<ls.getD x.toNat 0:=by
 unfold df
 simp only[List.mem_map,List.mem_filter,List.mem_range,decide_eq_true_eq]
 constructor
 ·rintro⟨i,⟨h1,h2⟩,rfl⟩
  exact⟨omg,by simpa using h1,by simpa using h2⟩
 ·rintro⟨h1,h2,h3⟩
  exact⟨x.toNat,⟨h2,h3⟩,omg⟩
def Gc{l:List Nat}(h:l.Nodup):(l.map (fun i:Nat=>(i:Int))).Nodup:=by
 rw[List.Nodup,List.pairwise_map]
 exact List.Pairwise.imp (fun{a b} hab he=>hab (Int.ofNat.inj he)) h
def Ga(ls:List Int):(df ls).Nodup:=Gc (List.Pairwise.filter _ List.nodup_range)
def wu(ls:List Int):∀n,(dW ls n).Nodup
 |0=>by simp[dW]
 |n+1=>by
  simp only[dW]
  rw[List.nodup_append]
  refine⟨wu ls n,zD ls _,?_⟩
  intro a ha b hb e
  subst e
  obtain⟨m,m1,m2,m3⟩:=vi.1 ha
  have h1:=(km.1 m3).2.2
  have h2:=(km.1 hb).2.2
  omega
def uX{ls:List Int}(hv:Vl ls):(df ls).length=(ord ls).length:=
 ((List.perm_ext_iff_of_nodup (Ga ls) (wu ls 15)).2 (fun x=>by rw[A7];exact(uf hv).symm)).length_eq
def Bf (ls:List Int):Nat→Int
 |0=>0
 |k+1=>fZ ls ((ord ls).getD k 0).toNat+1
def py (ls:List Int):Nat→Int
 |0=>0
 |k+1=>(lenOf ls ((ord ls).getD k 0).toNat:Int)
def qm(ls:List Int):∀n,0≤base ls n
 |0=>by simp[base]
 |n+1=>by
  have:=qm ls n
  have:=gJ ls n
  simp only[base]
  omega
def o1{ls:List Int}:∀n:Nat,n≤15→left (bV ls) n=2^n-(base ls n+cnt ls n)
 |0,_=>by simp[left,base,cnt]
 |n+1,h=>by
  simp only[left,base]
  rw[o1 n omg,oG omg,Int.pow_succ]
  omega
def rM{C:List Int}{all:Int}(h:gT C all=true){n:Nat}(hn:n≤15):0≤left C n:=by
 rcases Nat.eq_zero_or_pos n with e|e
 ·subst e;simp[left]
 ·by_cases hl:left C n<0
  ·rw[vH e hn hl] at h
   cases h
  ·omega
def Pl{ls:List Int}{all:Int}(hw:gT (bV ls) all=true){n r:Nat}(h1:1≤n)(h2:n≤15)(h:r<(cls ls n).length):base ls n+(r:Int)<2^n:=by
 have h3:=rM hw h2
 rw[o1 n h2] at h3
 have:cnt ls n=((cls ls n).length:Int):=by unfold cnt;rw[if_neg omg]
 omega
def oT{n:Nat}(h:n≤15):(2:Int)^n≤32768:=by
 have:(2:Nat)^n≤2^15:=Nat.pow_le_pow_right dec h
 have e:((2:Int)^n)=((2^n:Nat):Int):=by simp
 rw[e]
 omega
structure At (ls:List Int) (k:Nat) (s:Nat):Prop where
 sym:(ord ls).getD k 0=(s:Int)
 lt:s<ls.length
 one:1≤lenOf ls s
 top:lenOf ls s≤15
 len:ls.getD s 0=(lenOf ls s:Int)
 ge:py ls k≤lenOf ls s
 nn:0≤py ls k
 word:Bf ls k*2^(lenOf ls s-(py ls k).toNat)=fZ ls s
 w0:0≤fZ ls s
 w1:fZ ls s<2^lenOf ls s
def acv{ls:List Int}{all:Int}(hw:gT (bV ls) all=true){k:Nat}(hk:k<(ord ls).length):∃s,At ls k s:=by
 obtain⟨n,r,n1,n2,hr,e⟩:=tI hk
 obtain⟨t,t1,t2,t3,t4,t5⟩:=uh n1 n2 hr
 have hlt:=Pl hw n1 n2 hr
 have hb:=qm ls n
 cases k with
 |zero=>
  obtain⟨s,s1,s2,s3,s4,s5,s6⟩:=F5 hk
  have hst:s=t:=by rw[e] at s1;rw[t1] at s1;omega
  subst hst
  refine⟨s,s1,s2,s3,s4,s5,by simp[py],by simp[py],by simp[Bf,s6],omg,by rw[t4,t5];exact hlt⟩
 |succ k=>
  obtain⟨s,u,s1,u1,s2,u2,s3,s4,s5,s6,u6,u7⟩:=Gg hk
  have hut:u=t:=by rw[e] at u1;rw[t1] at u1;omega
  subst hut
  refine⟨u,u1,u2,omg,s5,u6,by simp only[py];rw[s1];simp;exact s4,by simp only[py];omega,?_,by rw[t5];omega,by rw[t4,t5];exact hlt⟩
  simp only[Bf,py]
  rw[s1,u7]
  simp
def wd (ls:List Int) (s:Nat):Int×Int:=if 0<lenOf ls s then(fZ ls s,(lenOf ls s:Int)) else(0,0)
def jf (ls:List Int) (k:Nat):List (Int×Int):=(List.range ls.length).map (fun s:Nat=>if(s:Int)∈(ord ls).take k then wd ls s else(0,0))
def words (ls:List Int):List (Int×Int):=(List.range ls.length).map (wd ls)
def qW(ls:List Int)(k:Nat):(jf ls k).length=ls.length:=by simp[jf]
def Cu(ls:List Int):jf ls 0=List.replicate ls.length (0,0):=by
 simp[jf,List.map_const']
def Fi{ls:List Int}(hv:Vl ls){k:Nat}(hk:(ord ls).length≤k):jf ls k=words ls:=by
 unfold jf words
 rw[List.take_of_length_le hk]
 apply List.map_congr_left
 intro s hs
 have hs:=List.mem_range.1 hs
 by_cases h:(s:Int)∈ord ls
 ·rw[if_pos h]
 ·rw[if_neg h]
  unfold wd
  rw[if_neg]
  intro h2
  exact h ((uf hv).2 ⟨omg,by simpa using hs,by simpa[lenOf] using h2⟩)
def Cy{ls:List Int}{k s:Nat}(hk:k<(ord ls).length)(ha:At ls k s):jf ls (k+1)=(jf ls k).set s (fZ ls s,(lenOf ls s:Int)):=by
 have e1:(ord ls).take (k+1)=(ord ls).take k++[(s:Int)]:=by
  rw[List.take_succ_eq_append_getElem hk]
  congr 2
  have:=ha.sym
  simpa[List.getD_eq_getElem?_getD,hk] using this
 apply List.ext_getElem?
 intro i
 rw[List.getElem?_set]
 by_cases hi:i<ls.length
 ·by_cases e:s=i
  ·subst e
   rw[if_pos rfl,if_pos (by rw[qW];exact hi)]
   simp only[jf,List.getElem?_map,List.getElem?_range hi,Option.map_some]
   rw[if_pos (by rw[e1];simp)]
   unfold wd
   rw[if_pos (by have:=ha.one;omega)]
  ·rw[if_neg e]
   simp only[jf,List.getElem?_map,List.getElem?_range hi,Option.map_some]
   by_cases hm:(i:Int)∈(ord ls).take k
   ·rw[if_pos hm,if_pos (by rw[e1];exact List.mem_append_left _ hm)]
   ·rw[if_neg hm,if_neg]
    rw[e1]
    intro h
    rcases List.mem_append.1 h with h|h
    ·exact hm h
    ·have:=List.mem_singleton.1 h
     omega
 ·rw[List.getElem?_eq_none (by rw[qW];omega)]
  have hs:=ha.lt
  rw[if_neg omg,List.getElem?_eq_none (by rw[qW];omega)]
def zj{ls:List Int}{k:Nat}(h:k<ls.length):cU (ls.take (k+1))=if cU (ls.take k)<ls[k] then ls[k] else cU (ls.take k):=by
 unfold cU
 rw[List.take_succ_eq_append_getElem h,List.foldl_append]
 rfl
def Dy(ls:List Int):0≤cU ls:=by
 have:∀(l:List Int) (a:Int),0≤a→0≤l.foldl (fun a x=>if a<x then x else a) a:=by
  intro l
  induction l with
  |nil=>intro a h;exact h
  |cons x l ih=>intro a h;simp only[List.foldl_cons];exact ih _ (by split<;>omega)
 exact this ls 0 (Int.le_refl _)
def Ey{ls:List Int}{k:Nat}(h:∀i,i<k→0≤ls.getD i 0∧ls.getD i 0≤15)(hk:ls.length≤k):∀x∈ls,0≤x∧x≤15:=by
 intro x hx
 obtain⟨i,hi⟩:=List.getElem?_of_mem hx
 have hlt:=(List.getElem?_eq_some_iff.1 hi).1
 have:=h i omg
 simpa[List.getD_eq_getElem?_getD,hi] using this
def mm{ls:List Int}(h:ls.length≤320):∀i,0≤(bV ls).getD i 0∧(bV ls).getD i 0≤320:=by
 intro i
 rcases Nat.lt_or_ge i 16 with hi|hi
 ·rw[oG hi]
  have:=gJ ls i
  have:=Uu ls i
  omega
 ·rw[List.getD_eq_getElem?_getD,List.getElem?_eq_none (by rw[iL];exact hi)]
  simp
def Rt(ls:List Int):∀i,i<(df ls).length→0≤(df ls).getD i 0∧(df ls).getD i 0<(ls.length:Int):=by
 intro i hi
 have:=A7.1 (fN (d:=0) hi)
 omega
def tH{ls:List Int}{k:Nat}(hok:∀i,i<k→0≤ls.getD i 0∧ls.getD i 0≤15)(h:0≤ls.getD k 0∧ls.getD k 0≤15):∀i,i<k+1→0≤ls.getD i 0∧ls.getD i 0≤15:=by
 intro i hi
 by_cases e:i=k
 ·subst e;exact h
 ·exact hok i omg
def Je{ls:List Int}{k:Nat}{x:Int}(h:k<ls.length)(hx:x=ls[k])(h0:x=0):bV (ls.take (k+1))=bV (ls.take k)∧df (ls.take (k+1))=df (ls.take k)∧cU (ls.take (k+1))=cU (ls.take k):=by
 have hz:ls[k]=0:=omg
 refine⟨HO h hz,?_,?_⟩
 ·rw[nF h,if_neg omg,List.append_nil]
 ·rw[zj h,if_neg]
  have:=Dy (ls.take k)
  omega
def step_pos{ls:List Int}{k:Nat}{x:Int}(h:k<ls.length)(hx:x=ls[k])(h0:0<x)(h1:x≤15):(bV (ls.take k)).set x.toNat ((bV (ls.take k)).getD x.toNat 0+1)=bV (ls.take (k+1))∧df (ls.take k)++[(k:Int)]=df (ls.take (k+1))∧(df (ls.take k)).length+1=(df (ls.take (k+1))).length∧(if cU (ls.take k)<x then x else cU (ls.take k))=cU (ls.take (k+1)):=by
 subst hx
 refine⟨(GA h h0 h1).symm,?_,?_,(zj h).symm⟩
 ·rw[nF h,if_pos h0]
 ·rw[nF h,if_pos h0];simp
def uZ:df []=[]:=rfl
def LQ:cU []=0:=rfl
def pD{ls:List Int}(h:320<ls.length):bp ls=1:=if_pos h
def kG{ls:List Int}{k:Nat}(h:¬320<ls.length)(hk:k<ls.length)(hb:ls.getD k 0<0∨15<ls.getD k 0):bp ls=1:=by
 unfold bp
 rw[if_neg h,if_neg]
 intro ho
 unfold okB at ho
 rw[List.all_eq_true] at ho
 have:=ho (ls.getD k 0) (by simp[List.getD_eq_getElem?_getD,hk])
 simp only[decide_eq_true_eq] at this
 omega
def Eo{ls:List Int}(h:¬320<ls.length)(hv:∀x∈ls,0≤x∧x≤15):bp ls=if gT (bV ls) ((df ls).length:Int)=true then 0 else 4:=by
 unfold bp
 rw[if_neg h,if_pos]
 unfold okB
 rw[List.all_eq_true]
 intro x hx
 simpa using hv x hx
def je{ls:List Int}(h:bp ls=0):Vl ls∧gT (bV ls) ((df ls).length:Int)=true:=by
 unfold bp at h
 split at h
 ·omega
 ·split at h
  ·rename_i ho
   split at h
   ·rename_i hw
    refine⟨⟨omg,?_⟩,hw⟩
    unfold okB at ho
    rw[List.all_eq_true] at ho
    intro x hx
    simpa using ho x hx
   ·omega
  ·omega
def ns (ls:List Int) (x:Int):Int:=if 0≤x∧x<ls.length then(wd ls x.toNat).1 else 0
def k6 (ls:List Int) (x:Int):Int:=if 0≤x∧x<ls.length then(wd ls x.toNat).2 else 0
def p9 (ls:List Int) (x:Int):Bool:=decide (0≤x∧x<ls.length∧(wd ls x.toNat).2≠0)
end Go.ae
namespace Go.ae
def fK (ls:List Int):List Int:=(List.range 16).map (fun n=>((cls ls n).length:Int))
def kF(ls:List Int):(fK ls).length=16:=by simp[fK]
def A9{ls:List Int}{n:Nat}(h:n<16):(fK ls).getD n 0=((cls ls n).length:Int):=by simp[fK,List.getD_eq_getElem?_getD,h]
def KR:fK []=List.replicate 16 0:=by
  unfold fK
  simp only[vD]
  rfl
def FB{ls:List Int}(h:ls.length≤320):∀i,0≤(fK ls).getD i 0∧(fK ls).getD i 0≤320:=by
  intro i
  rcases Nat.lt_or_ge i 16 with hi|hi
  · rw[A9 hi]
    have:=n6 ls i
    omega
  · rw[List.getD_eq_getElem?_getD,List.getElem?_eq_none (by rw[kF];exact hi)]
    simp
def zA{ls:List Int}{k:Nat}{x:Int}(h:k<ls.length)(hx:x=ls[k])(h1:0≤x)(h2:x≤15):(fK (ls.take k)).set x.toNat ((fK (ls.take k)).getD x.toNat 0+1)=fK (ls.take (k+1)):=by
  subst hx
  symm
  apply List.ext_getElem?
  intro i
  by_cases hi:i<16
  · rw[List.getElem?_set]
    by_cases he:ls[k].toNat=i
    · rw[if_pos he,if_pos (by rw[kF];omega),he,A9 hi]
      simp only[fK,List.getElem?_map,List.getElem?_range hi,Option.map_some]
      rw[lF h,if_pos omg]
      simp
    · rw[if_neg he]
      simp only[fK,List.getElem?_map,List.getElem?_range hi,Option.map_some]
      rw[lF h,if_neg omg,List.append_nil]
  · rw[List.getElem?_eq_none (by rw[kF];omega),List.getElem?_eq_none (by rw[List.length_set,kF];omega)]
def KA(ls:List Int):(fK ls).set (0:Int).toNat 0=bV ls:=by
  apply List.ext_getElem?
  intro i
  rw[show(0:Int).toNat=0 from rfl,List.getElem?_set]
  by_cases he:0=i
  · subst he
    rw[if_pos rfl,if_pos (by rw[kF];omega)]
    rfl
  · rw[if_neg he]
    by_cases hi:i<16
    · simp only[fK,bV,List.getElem?_map,List.getElem?_range hi,Option.map_some]
      unfold cnt
      rw[if_neg omg]
    · rw[List.getElem?_eq_none (by rw[kF];omega),List.getElem?_eq_none (by rw[iL];omega)]
def kP{ls:List Int}{k:Nat}{x:Int}(h:k<ls.length)(hx:x=ls[k]):ls.take k++[x]=ls.take (k+1):=by
  subst hx;exact(List.take_succ_eq_append_getElem h).symm
def Ka{ls:List Int}{k:Nat}{x:Int}(h:k<ls.length)(hx:x=ls[k])(h0:0<x):((df (ls.take k)).length:Int)+1=((df (ls.take (k+1))).length:Int):=by
  rw[nF h,if_pos omg];simp
def HI{ls:List Int}{k:Nat}{x:Int}(h:k<ls.length)(hx:x=ls[k])(h0:x≤0):((df (ls.take k)).length:Int)=((df (ls.take (k+1))).length:Int):=by
  rw[nF h,if_neg omg];simp
def sy (ls:List Int) (m i:Nat):List Int:=dW ls m++cls (ls.take i) (m+1)
def x8(ls:List Int)(m:Nat):sy ls m 0=dW ls m:=by simp[sy,vD]
def Ah{ls:List Int}{m i:Nat}(h:ls.length≤i):sy ls m i=dW ls (m+1):=by simp[sy,dW,List.take_of_length_le h]
def wJ{ls:List Int}{m i:Nat}{x:Int}(h:i<ls.length)(hx:x=ls[i])(he:x=(m:Int)+1):sy ls m i++[(i:Int)]=sy ls m (i+1):=by
  unfold sy
  rw[lF h,if_pos (by rw[←hx,he];rfl),List.append_assoc]
def z7{ls:List Int}{m i:Nat}{x:Int}(h:i<ls.length)(hx:x=ls[i])(he:x=(m:Int)+1):(sy ls m i).length+1=(sy ls m (i+1)).length:=by
  rw[←wJ h hx he];simp
def Fy{ls:List Int}{m i:Nat}{x:Int}(h:i<ls.length)(hx:x=ls[i])(he:¬x=(m:Int)+1):sy ls m i=sy ls m (i+1):=by
  unfold sy
  rw[lF h,if_neg (by rw[←hx];exact he),List.append_nil]
def FA(ls:List Int):dW ls 15=ord ls:=rfl
def Dh(ls:List Int):∀n,(dW ls n).length≤n*ls.length
  |0=>by simp[dW]
  |n+1=>by
    have:=Dh ls n
    have:=n6 ls (n+1)
    simp only[dW,List.length_append]
    rw[Nat.succ_mul]
    omega
def FI{ls:List Int}{m i:Nat}(hm:m≤15)(hl:ls.length≤320):(sy ls m i).length≤10000:=by
  have h1:=Dh ls m
  have h2:=n6 (ls.take i) (m+1)
  have h3:m*ls.length≤15*320:=Nat.mul_le_mul hm hl
  have h4:(ls.take i).length≤ls.length:=by rw[List.length_take];omega
  simp only[sy,List.length_append]
  omega
end Go.ae
namespace Go.ae
def bk (ls:List Int) (n:Nat):Nat→Int
  |0=>base ls n
  |k+1=>bk ls n k+1
structure Sy (ls:List Int) (x:Int) (L r:Nat):Prop where
  one:1≤L
  top:L≤15
  lt:r<(cls ls L).length
  get:(cls ls L).getD r 0=x
  w:ns ls x=base ls L+(r:Int)
  n:k6 ls x=(L:Int)
  b:p9 ls x=true
def Pb(ls:List Int)(m:Nat):cnt ls (m+1)=((cls ls (m+1)).length:Int):=by unfold cnt;rw[if_neg omg]
def Ws(ls:List Int){m k:Nat}(hm:m<15)(hk:k<(cls ls (m+1)).length):off ls (m+1)+k<(ord ls).length:=by
  have h1:=oW ls (n:=m+1) omg
  have h2:=iM ls (show m+1+1≤16 by omega)
  rw[mP]
  omega
def yx{ls:List Int}{all:Int}(hw:gT (bV ls) all=true){n:Nat}(hn:n≤15):base ls n+cnt ls n≤32768:=by
  have h3:=rM hw hn
  rw[o1 n hn] at h3
  have:=oT hn
  omega
end Go.ae
namespace Go.Sl
def Ly{ls:List Int}{k s:Nat}(hs:ae.At ls k s){x:Int}(hx:x=(ae.lenOf ls s:Int)):IntKind.i64.wrap (ae.Bf ls k*2^(min (x-ae.py ls k).toNat IntKind.i64.bits))=ae.fZ ls s:=by
  have h1:=hs.top
  have h2:=hs.nn
  have h3:=hs.ge
  have h4:=hs.w0
  have h5:=hs.w1
  have h6:=ae.oT hs.top
  have e:min (x-ae.py ls k).toNat IntKind.i64.bits=ae.lenOf ls s-(ae.py ls k).toNat:=by
    have:IntKind.i64.bits=64:=rfl
    omega
  rw[e,hs.word]
  exact gI omg omg
def JU{ls:List Int}{all:Int}(hw:ae.gT (ae.bV ls) all=true){m:Nat}(hm:m≤15):IntKind.i64.wrap ((ae.base ls m+ae.cnt ls m)*2^(min (1:Int).toNat IntKind.i64.bits))=ae.base ls (m+1):=by
  have h1:=ae.yx hw hm
  have h2:=ae.qm ls m
  have h3:=ae.gJ ls m
  rw[show min (1:Int).toNat IntKind.i64.bits=1 from rfl]
  simp only[ae.base]
  rw[Int.mul_comm 2,Int.pow_one]
  exact gI omg omg
end Go.Sl
namespace Go.ae
def P9(ls:List Int){m n:Nat}(h:m<n):(base ls m+cnt ls m)*2^(n-m)≤base ls n:=by
  induction n with
  |zero=>omega
  |succ n ih=>
    have hc:=gJ ls n
    by_cases e:m=n
    · subst e
      rw[show m+1-m=1 by omega]
      simp only[base]
      omega
    · have:=ih omg
      simp only[base]
      rw[show n+1-m=(n-m)+1 by omega,Int.pow_succ,←Int.mul_assoc]
      omega
structure Pf (ls:List Int) (i k:Int):Prop where
  n1:1≤k6 ls i
  n2:k6 ls i≤15
  m1:1≤k6 ls k
  m2:k6 ls k≤15
  a0:0≤ns ls i
  a1:ns ls i<32768
  b0:0≤ns ls k
  b1:ns ls k<32768
  ge:k6 ls k≤k6 ls i→ns ls k<(ns ls i).fdiv (2^(k6 ls i-k6 ls k).toNat)
  lt:k6 ls i<k6 ls k→ns ls i<(ns ls k).fdiv (2^(k6 ls k-k6 ls i).toNat)
def cm{ls:List Int}{m n r s:Nat}(h:m<n)(hm:1≤m)(hr:r<(cls ls m).length):base ls m+(r:Int)<(base ls n+(s:Int)).fdiv (2^(n-m)):=by
  have h1:=P9 ls h
  have hc:cnt ls m=((cls ls m).length:Int):=by unfold cnt;rw[if_neg omg]
  have hp:(0:Int)<2^(n-m):=Int.pow_pos dec
  rw[Int.fdiv_eq_ediv_of_nonneg _ (Int.le_of_lt hp)]
  have:base ls m+cnt ls m≤(base ls n+(s:Int))/2^(n-m):=by
    rw[Int.le_ediv_iff_mul_le hp]
    omega
  omega
def XM (ls:List Int):Nat→Int
  |0=>0
  |k+1=>XM ls k+(if 0<ls.getD k 0 then 2^(15-lenOf ls k) else 0)
end Go.ae
namespace Go.ag
def aq (B:List Int):Prop:=∀x∈B,0≤x∧x<256
def aq.get{B:List Int}(h:aq B)(i:Nat):0≤B.getD i 0∧B.getD i 0<256:=by
  rcases Nat.lt_or_ge i B.length with hi|hi
  · exact h _ (by simp[List.getD_eq_getElem?_getD,hi])
  · simp[List.getD_eq_getElem?_getD,hi]
def iF (B:List Int) (i:Nat):Int:=B.getD (i/8) 0/2^(i%8)%2
def kY(B:List Int)(i:Nat):0≤iF B i∧iF B i≤1:=by unfold iF;omega
def aG (B:List Int) (at_:Nat):Nat→Int
  |0=>0
  |n+1=>aG B at_ n+iF B (at_+n)*2^n
def aX(B:List Int)(at_:Nat):∀n:Nat,0≤aG B at_ n∧aG B at_ n<2^n
  |0=>by simp[aG]
  |n+1=>by
    have h:=aX B at_ n
    have h2:=kY B (at_+n)
    have hp:(0:Int)<2^n:=Int.pow_pos dec
    simp only[aG]
    rw[Int.pow_succ]
    have h3:iF B (at_+n)=0∨iF B (at_+n)=1:=omg
    rcases h3 with e|e<;>rw[e]<;>omega
def iQ{n:Nat}(h:n≤24):(2:Int)^n≤16777216:=by
  have:(2:Nat)^n≤2^24:=Nat.pow_le_pow_right dec h
  have e:((2:Int)^n)=((2^n:Nat):Int):=by simp
  rw[e]
  omega
def dU(k:Nat)(a:Nat):(BitVec.ofInt k (a:Int)).toNat=a%2^k:=by
  rw[BitVec.toNat_ofInt]
  have:((a:Int)%((2^k:Nat):Int))=((a%2^k:Nat):Int):=by simp
  omega
def pQ{a b:Nat}(ha:a<2^62)(hb:b<2^62):IntKind.i64.wrap ((BitVec.ofInt IntKind.i64.bits (a:Int)|||BitVec.ofInt IntKind.i64.bits (b:Int)).toNat:Int)=((a|||b:Nat):Int):=by
  have e:IntKind.i64.bits=64:=rfl
  rw[e,BitVec.toNat_or,dU,dU,Nat.mod_eq_of_lt omg,Nat.mod_eq_of_lt omg]
  have:=Nat.or_lt_two_pow ha hb
  exact Sl.gI omg omg
def Xx{x b:Int}{n:Nat}(h0:0≤x)(h1:x<2^n)(hb:0≤b∧b≤1)(hn:n≤24):IntKind.i64.wrap ((BitVec.ofInt IntKind.i64.bits x|||BitVec.ofInt IntKind.i64.bits (b*2^n)).toNat:Int)=x+b*2^n:=by
  obtain⟨a,rfl⟩:∃a:Nat,x=(a:Int):=⟨x.toNat,omg⟩
  obtain⟨c,rfl⟩:∃c:Nat,b=(c:Int):=⟨b.toNat,omg⟩
  have hp:=iQ hn
  have e1:(c:Int)*2^n=((2^n*c:Nat):Int):=by rw[Nat.mul_comm];simp
  have ha:a<2^n:=by
    have:((a:Nat):Int)<((2^n:Nat):Int):=by simpa using h1
    omega
  have hpn:2^n≤16777216:=by
    have:((2^n:Nat):Int)≤16777216:=by simpa using hp
    omega
  have hc:2^n*c≤16777216:=by
    have:c=0∨c=1:=omg
    rcases this with rfl|rfl<;>omega
  rw[e1,pQ omg omg,Nat.or_comm,←Nat.two_pow_add_eq_or_of_lt ha]
  omega
def Io{x b:Int}(h0:0≤x)(h1:x<2^40)(hb:0≤b∧b≤1):IntKind.i64.wrap ((BitVec.ofInt IntKind.i64.bits (2*x)|||BitVec.ofInt IntKind.i64.bits b).toNat:Int)=2*x+b:=by
  obtain⟨a,rfl⟩:∃a:Nat,x=(a:Int):=⟨x.toNat,omg⟩
  obtain⟨c,rfl⟩:∃c:Nat,b=(c:Int):=⟨b.toNat,omg⟩
  have e1:2*(a:Int)=((2^1*a:Nat):Int):=omg
  rw[e1,pQ omg omg,←Nat.two_pow_add_eq_or_of_lt omg]
  omega
def Cl{x:Int}(h0:0≤x)(h1:x<256):IntKind.u8.wrap ((BitVec.ofInt IntKind.u8.bits x&&&BitVec.ofInt IntKind.u8.bits 1).toNat:Int)=x%2:=by
  obtain⟨a,rfl⟩:∃a:Nat,x=(a:Int):=⟨x.toNat,omg⟩
  have e:IntKind.u8.bits=8:=rfl
  have e1:BitVec.ofInt 8 1=BitVec.ofInt 8 ((1:Nat):Int):=rfl
  rw[e,e1,BitVec.toNat_and,dU,dU,Nat.mod_eq_of_lt omg]
  have:a&&&(1%2^8)=a%2:=Nat.and_one_is_mod a
  rw[this]
  have e2:IntKind.u8.wrap (((a%2:Nat)):Int)=((a%2:Nat):Int)%256:=by simp[IntKind.wrap,IntKind.bits,IntKind.signed]
  rw[e2]
  omega
def zp{x:Int}(h0:0≤x)(h1:x<2^62):IntKind.i64.wrap ((BitVec.ofInt IntKind.i64.bits x&&&BitVec.ofInt IntKind.i64.bits 1).toNat:Int)=x%2:=by
  obtain⟨a,rfl⟩:∃a:Nat,x=(a:Int):=⟨x.toNat,omg⟩
  have e:IntKind.i64.bits=64:=rfl
  have e1:BitVec.ofInt 64 1=BitVec.ofInt 64 ((1:Nat):Int):=rfl
  rw[e,e1,BitVec.toNat_and,dU,dU,Nat.mod_eq_of_lt omg]
  have:a&&&(1%2^64)=a%2:=Nat.and_one_is_mod a
  rw[this]
  exact(Sl.gI omg omg).trans omg
def EW{x:Int}{k:Nat}(h0:0≤x)(hk:k<8){d:Int}(hd:d=(k:Int)):x.fdiv (2^(min d.toNat IntKind.u8.bits))=x/2^k:=by
  have e:min d.toNat IntKind.u8.bits=k:=by
    have:IntKind.u8.bits=8:=rfl
    omega
  rw[e,Int.fdiv_eq_ediv_of_nonneg _ (Int.le_of_lt (Int.pow_pos dec))]
def YC{b:Int}{n:Nat}(hb:0≤b∧b≤1)(hn:n≤24){d:Int}(hd:d=(n:Int)):IntKind.i64.wrap (b*2^(min d.toNat IntKind.i64.bits))=b*2^n:=by
  have e:min d.toNat IntKind.i64.bits=n:=by
    have:IntKind.i64.bits=64:=rfl
    omega
  rw[e]
  have hp:=iQ hn
  have h0:(0:Int)<2^n:=Int.pow_pos dec
  have h3:b=0∨b=1:=omg
  rcases h3 with e|e<;>rw[e]<;>exact Sl.gI omg omg
def Wt{x:Int}(h0:0≤x)(h1:x<2^40):IntKind.i64.wrap (x*2^(min (1:Int).toNat IntKind.i64.bits))=2*x:=by
  rw[show min (1:Int).toNat IntKind.i64.bits=1 from rfl,Int.pow_one]
  rw[Sl.gI omg omg]
  omega
def rB{x:Int}(h0:0≤x)(h1:x<256)(k:Nat):0≤x/2^k∧x/2^k<256:=by
  have hp:(0:Int)<2^k:=Int.pow_pos dec
  have h2:=Int.ediv_nonneg h0 (Int.le_of_lt hp)
  have h3:=Int.ediv_le_self (2^k) h0
  omega
end Go.ag
namespace Go.Sl
def Ge{n:Int}(h1:0≤n)(h2:n<256):IntKind.u8.wrap n=n:=by
  have e:IntKind.u8.wrap n=n%256:=by simp[IntKind.wrap,IntKind.bits,IntKind.signed]
  rw[e];omega
end Go.Sl
namespace Go.ag
def acc (B:List Int) (at_:Nat):Nat→Int
  |0=>0
  |n+1=>2*acc B at_ n+iF B (at_+n)
def ma(B:List Int)(at_:Nat):∀n:Nat,0≤acc B at_ n∧acc B at_ n<2^n
  |0=>by simp[acc]
  |n+1=>by
    have h:=ma B at_ n
    have h2:=kY B (at_+n)
    simp only[acc]
    rw[Int.pow_succ]
    omega
def vf(B:List Int)(a:Nat):aG B a 1=iF B a:=by simp[aG]
end Go.ag
namespace Go.ae
open Go.ag
inductive TR where
  |uP (n:Nat) (s:Int)
  |short (n:Nat)
  |none_ (n:Nat)
def nJ (ls B:List Int) (at_:Nat):Nat→Nat→TR
  |0,n=>.none_ n
  |r+1,n=>if at_+n<8*B.length then(if acc B at_ (n+1)-base ls (n+1)<cnt ls (n+1) then .uP (n+1) ((ord ls).getD (off ls (n+1)+(acc B at_ (n+1)-base ls (n+1)).toNat) 0) else nJ ls B at_ r (n+1)) else .short n
def fu (ls:List Int):Nat:=(cU ls).toNat
def tk (ls B:List Int) (at_:Nat):TR:=nJ ls B at_ (fu ls) 0
structure Tk (ls B:List Int) (at_ n:Nat):Prop where
  le:n≤fu ls
  eq:tk ls B at_=nJ ls B at_ (fu ls-n) n
  ge:base ls n+cnt ls n≤acc B at_ n
  room:at_+n≤8*B.length
def uT{ls B:List Int}{at_:Nat}(h:at_≤8*B.length):Tk ls B at_ 0:=⟨Nat.zero_le _,rfl,by simp[base,cnt,acc],h⟩
section
variable {ls B:List Int} {at_ n:Nat}
def Tk.none(h:Tk ls B at_ n)(hm:fu ls≤n):tk ls B at_=.none_ n:=by
  rw[h.eq,show fu ls-n=0 by omega];rfl
def Tk.short(h:Tk ls B at_ n)(hm:n<fu ls)(hx:8*B.length≤at_+n):tk ls B at_=.short n:=by
  rw[h.eq,show fu ls-n=(fu ls-(n+1))+1 by omega]
  simp only[nJ]
  rw[if_neg omg]
def Tk.uP(h:Tk ls B at_ n)(hm:n<fu ls)(hx:at_+n<8*B.length)(hl:acc B at_ (n+1)-base ls (n+1)<cnt ls (n+1)):tk ls B at_=.uP (n+1) ((ord ls).getD (off ls (n+1)+(acc B at_ (n+1)-base ls (n+1)).toNat) 0):=by
  rw[h.eq,show fu ls-n=(fu ls-(n+1))+1 by omega]
  simp only[nJ]
  rw[if_pos hx,if_pos hl]
def Tk.Ve(h:Tk ls B at_ n)(hm:n<fu ls)(hx:at_+n<8*B.length)(hl:¬acc B at_ (n+1)-base ls (n+1)<cnt ls (n+1)):Tk ls B at_ (n+1):=by
  refine⟨hm,?_,omg,omg⟩
  rw[h.eq,show fu ls-n=(fu ls-(n+1))+1 by omega]
  simp only[nJ]
  rw[if_pos hx,if_neg hl]
def Tk.nn(h:Tk ls B at_ n):base ls (n+1)≤acc B at_ (n+1):=by
  have h1:=h.ge
  have h2:=kY B (at_+n)
  simp only[base,acc]
  omega
end
def CZ(ls:List Int):∀x∈ls,x≤cU ls:=by
  have key:∀(l:List Int) (a:Int),a≤l.foldl (fun a x=>if a<x then x else a) a∧∀x∈l,x≤l.foldl (fun a x=>if a<x then x else a) a:=by
    intro l
    induction l with
    |nil=>intro a;exact⟨Int.le_refl _,fun x hx=>by cases hx⟩
    |cons y l ih=>
      intro a
      simp only[List.foldl_cons]
      obtain⟨h1,h2⟩:=ih (if a<y then y else a)
      refine⟨Int.le_trans (by split<;>omega) h1,fun x hx=>?_⟩
      rcases List.mem_cons.1 hx with rfl|hx
      · exact Int.le_trans (by split<;>omega) h1
      · exact h2 x hx
  exact(key ls 0).2
def Dp(ls:List Int):cU ls=0∨cU ls∈ls:=by
  have key:∀(l:List Int) (a:Int),l.foldl (fun a x=>if a<x then x else a) a=a∨l.foldl (fun a x=>if a<x then x else a) a∈l:=by
    intro l
    induction l with
    |nil=>intro a;exact .inl rfl
    |cons y l ih=>
      intro a
      simp only[List.foldl_cons]
      rcases ih (if a<y then y else a) with h|h
      · rw[h]
        split
        · exact .inr (List.mem_cons_self ..)
        · exact .inl rfl
      · exact .inr (List.mem_cons_of_mem _ h)
  exact key ls 0
def xc{ls:List Int}(hV:Vl ls):fu ls≤15:=by
  unfold fu
  rcases Dp ls with h|h
  · omega
  · have:=hV.2 _ h;omega
def tt(ls:List Int):cU ls=(fu ls:Int):=by
  have:=Dy ls
  unfold fu;omega
def yK{ls:List Int}{k:Nat}(h:fu ls<k):cnt ls k=0:=by
  unfold cnt
  rw[if_neg omg]
  cases hc:cls ls k with
  |nil=>rfl
  |cons x l=>
    exfalso
    have hx:x∈cls ls k:=by rw[hc];exact List.mem_cons_self ..
    obtain⟨h1,h2,h3⟩:=km.1 hx
    have:=CZ ls (ls.getD x.toNat 0) (by simp[List.getD_eq_getElem?_getD,h2])
    have:=tt ls
    omega
def DJ{ls:List Int}(h:0<fu ls):1≤cnt ls (fu ls):=by
  unfold cnt
  rw[if_neg omg]
  have he:=tt ls
  rcases Dp ls with h0|hm
  · omega
  · obtain⟨i,hi⟩:=List.getElem?_of_mem hm
    have hlt:=(List.getElem?_eq_some_iff.1 hi).1
    have:(i:Int)∈cls ls (fu ls):=km.2 ⟨omg,by simpa using hlt,by simp[List.getD_eq_getElem?_getD,hi];omega⟩
    have:=List.length_pos_of_mem this
    omega
def DU{ls:List Int}(hV:Vl ls)(h:0<(ord ls).length):0<fu ls:=by
  have hm:(ord ls).getD 0 0∈ord ls:=by
    have:(ord ls)[0]?=some ((ord ls).getD 0 0):=by simp[List.getD_eq_getElem?_getD,h]
    exact List.mem_of_getElem? this
  obtain⟨h1,h2,h3⟩:=(uf hV).1 hm
  have:=CZ ls (ls.getD ((ord ls).getD 0 0).toNat 0) (by simp only[List.getD_eq_getElem?_getD] at h2 ⊢;simp[h2])
  have:=tt ls
  omega
def LF{ls:List Int}(hV:Vl ls)(h:(ord ls).length=0):fu ls=0:=by
  rcases Nat.eq_zero_or_pos (fu ls) with e|e
  · exact e
  · have h1:=DJ e
    have h2:=kZ ls (fu ls)
    have h3:=iM ls (show fu ls+1≤16 by have:=xc hV;omega)
    rw[mP] at h
    omega
def AT{ls:List Int}(hE:bp ls=0)(h:(ord ls).length≠0):base ls 15+cnt ls 15=32768∨((ord ls).length=1∧cnt ls 1=1):=by
  obtain⟨hV,hW⟩:=je hE
  have hlb:=o1 (ls:=ls) 15 omg
  rw[yS (fun n _ h2=>rM hW h2)] at hW
  simp only[Bool.or_eq_true,Bool.and_eq_true,decide_eq_true_eq] at hW
  have hp:=uX hV
  rcases hW with(h0|h0)|⟨h1,h2⟩
  · left;omega
  · omega
  · right
    rw[oG omg] at h2
    exact⟨omg,h2⟩
def GM{ls:List Int}(hV:Vl ls){m:Nat}(h1:fu ls≤m)(h2:m≤15):base ls 15+cnt ls 15=(base ls m+cnt ls m)*2^(15-m):=by
  by_cases e:m=15
  · subst e;simp
  · rw[qT (ls:=ls) (m:=m) (n:=15) h2 (fun k a b=>yK omg) omg,yK (ls:=ls) (k:=15) omg]
    omega
def Py{ls B:List Int}{at_ m:Nat}(hE:bp ls=0)(h2:2≤(ord ls).length)(hm:m≤15)(hg:base ls m+cnt ls m≤acc B at_ m):m<fu ls:=by
  have hV:=(je hE).1
  rcases Nat.lt_or_ge m (fu ls) with h|h
  · exact h
  · exfalso
    have h3:base ls 15+cnt ls 15=32768:=by
      rcases AT hE omg with h|⟨h,_⟩
      · exact h
      · omega
    rw[GM hV h hm] at h3
    have h4:=(ma B at_ m).2
    have hp:(0:Int)<2^(15-m):=Int.pow_pos dec
    have h5:acc B at_ m*2^(15-m)<2^m*2^(15-m):=Int.mul_lt_mul_of_pos_right h4 hp
    have h6:(2:Int)^m*2^(15-m)=32768:=by
      rw[←Int.pow_add,show m+(15-m)=15 by omega];rfl
    have h7:(base ls m+cnt ls m)*2^(15-m)≤acc B at_ m*2^(15-m):=Int.mul_le_mul_of_nonneg_right hg (Int.le_of_lt hp)
    omega
def RF{ls:List Int}(hE:bp ls=0)(h:(ord ls).length=1):fu ls=1:=by
  have hV:=(je hE).1
  have hp:=DU hV omg
  have h15:=xc hV
  have hc:=DJ hp
  have ho:=kZ ls (fu ls)
  have hm:=iM ls (show fu ls+1≤16 by omega)
  rw[mP] at h
  rcases AT hE (by rw[mP];omega) with h3|⟨_,h3⟩
  · exfalso
    rw[GM hV (Nat.le_refl _) h15] at h3
    have hz:∀k,0<k→k<fu ls→cnt ls k=0:=by
      intro k k1 k2
      have a1:=iM ls (show k+1≤fu ls by omega)
      have a2:=kZ ls k
      have a3:=gJ ls k
      omega
    rw[qT (ls:=ls) (m:=0) (n:=fu ls) (Nat.zero_le _) hz hp,show base ls 0+cnt ls 0=0 from by simp[base,cnt],Int.zero_mul,Int.zero_add,show cnt ls (fu ls)=1 by omega,Int.one_mul] at h3
    have:(2:Nat)^(15-fu ls)≤2^14:=Nat.pow_le_pow_right dec omg
    have e:((2:Int)^(15-fu ls))=((2^(15-fu ls):Nat):Int):=by simp
    rw[e] at h3
    omega
  · by_cases e:fu ls=1
    · exact e
    · exfalso
      have a1:=iM ls (show 2≤fu ls by omega)
      have a2:(off ls 2:Int)=off ls 1+cnt ls 1:=kZ ls 1
      omega
def wO{ls:List Int}(hV:Vl ls){m:Nat}(hm:m≤15):off ls (m+1)≤320:=by
  have h1:=iM ls (show m+1≤16 by omega)
  have h2:=uX hV
  have h3:=tQ ls
  have h4:=hV.1
  rw[mP] at h2
  omega
def Gz{ls:List Int}{m:Nat}(hm:m<15):(bV ls).getD ((m:Int)+1).toNat 0=cnt ls (m+1):=by
  rw[show((m:Int)+1).toNat=m+1 by omega,oG omg]
def Ip{ls:List Int}{m:Nat}{a:Int}(hm:m<15)(h0:base ls (m+1)≤a)(hl:a-base ls (m+1)<cnt ls (m+1)):off ls (m+1)+(a-base ls (m+1)).toNat<(ord ls).length:=by
  have:=Pb ls m
  exact Ws ls hm omg
def vc{ls B:List Int}{at_ m:Nat}{s:Int}:∀(r n:Nat),nJ ls B at_ r n=.uP m s→n<m∧at_+m≤8*B.length
  |0,n,h=>by simp[nJ] at h
  |r+1,n,h=>by
    simp only[nJ] at h
    split at h
    · split at h
      · cases h;omega
      · have:=vc r (n+1) h;omega
    · cases h
end Go.ae
namespace Go.ag
structure Pk (bs out:List Int) (fr:Nat):Prop where
 le:fr≤8
 len:8*out.length=bs.length+fr
 wH:aq out
 get:∀i,i<bs.length→iF out i=bs.getD i 0
 zero:∀i,bs.length≤i→iF out i=0
def orB (x b:Int) (p:Nat):Int:=((x.toNat|||b.toNat*2^p:Nat):Int)
end Go.ag
namespace Go.ae
open Go.ag
def wb (ls:List Int) (s:Int):List Int:=(List.range (k6 ls s).toNat).map (fun i=>ns ls s/2^((k6 ls s).toNat-1-i)%2)
def ins (ls syms:List Int):List Int:=(syms.map (· %330)).filter (fun s=>decide (s<ls.length)&&p9 ls s)
def bits (ls:List Int) (l:List Int):List Int:=l.flatMap (wb ls)
end Go.ae
namespace Go.ag
def mJ (x:Int) (n:Nat):List Int:=(List.range n).map (fun i=>x/2^i%2)
def pL{x:Int}{k:Nat}(hk:k≤60){d:Int}(hd:d=(k:Int)):x.fdiv (2^(min d.toNat IntKind.i64.bits))=x/2^k:=by
 have e:min d.toNat IntKind.i64.bits=k:=by
  have:IntKind.i64.bits=64:=rfl
  omega
 rw[e,Int.fdiv_eq_ediv_of_nonneg _ (Int.le_of_lt (Int.pow_pos dec))]
end Go.ag
namespace Go.ab
open Go.ag Go.ae
structure St where
  at_:Nat
  out:List Int
  kind:Int
  left:Nat
  last:Bool
  lits:List Int
  du:List Int
  ax:Nat
  cm:Nat
  ended:Bool
def dO:List Int:=List.replicate 144 8++List.replicate 112 9++List.replicate 24 7++List.replicate 8 8
def jT:List Int:=List.replicate 32 5
def sym (ls B:List Int) (a:Nat):Except Int (Int×Nat):=match tk ls B a with
  |.uP n s=>.ok (s,a+n)
  |.short _=>.error 2
  |.none_ _=>.error 4
def cT (a:Nat):Nat:=(a+7)/8*8
def kx:List Int:=[16,17,18,0,8,7,9,6,10,5,11,4,12,3,13,2,14,1,15]
def gG (B:List Int) (a:Nat):Nat→List Int
  |0=>List.replicate 19 0
  |i+1=>(gG B a i).set (kx.getD i 0).toNat (aG B (a+3*i) 3)
def dE (s:Int):Nat:=if s=16 then 2 else if s=17 then 3 else 7
def iu (s:Int):Int:=if s=18 then 11 else 3
def ib (s:Int) (l:List Int):Int:=if s=16 then l.getD (l.length-1) 0 else 0
def rep (B:List Int) (s:Int) (l:List Int) (a:Nat):Except Int (Int×Int×Nat):=
  if s<16 then .ok (s,1,a) else if 8*B.length<a+dE s then .error 2 else if s=16∧l=[] then .error 4 else .ok (ib s l,iu s+aG B a (dE s),a+dE s)
def ly (B c l:List Int) (a:Nat):Except Int (List Int×Nat):=match sym c B a with
  |.error e=>.error e
  |.ok (s,a)=>match rep B s l a with
    |.error e=>.error e
    |.ok (x,n,a)=>.ok (l++List.replicate n.toNat x,a)
def fg (B c:List Int) (tot:Nat):Nat→List Int→Nat→Except Int (List Int×Nat)
  |0,l,a=>.ok (l,a)
  |f+1,l,a=>if l.length<tot then(match ly B c l a with
    |.error e=>.error e
    |.ok (l',a')=>if l'.length≤tot then fg B c tot f l' a' else .error 4) else .ok (l,a)
def hL (B:List Int) (a:Nat):Nat:=257+(aG B a 5).toNat
def hD (B:List Int) (a:Nat):Nat:=1+(aG B (a+5) 5).toNat
def hC (B:List Int) (a:Nat):Nat:=4+(aG B (a+10) 4).toNat
def told (B:List Int) (a:Nat):Except Int (Nat×List Int×List Int):=
  if 8*B.length<a+14 then .error 2 else
  if¬(hL B a≤286∧hD B a≤30) then .error 4 else
  if 8*B.length<a+14+3*hC B a then .error 2 else
  if bp (gG B (a+14) (hC B a))≠0 then .error 4 else
  match fg B (gG B (a+14) (hC B a)) (hL B a+hD B a) (hL B a+hD B a) [] (a+14+3*hC B a) with
  |.error e=>.error e
  |.ok (l,a')=>if bp (l.take (hL B a))≠0∨bp (l.drop (hL B a))≠0∨l.getD 256 0=0 then .error 4 else .ok (a',l.take (hL B a),l.drop (hL B a))
def dk (B:List Int) (s:St):Except Int St:=
  if 8*B.length<s.at_+3 then .error 2 else
  if aG B (s.at_+1) 2=0 then
    (if 8*B.length<cT (s.at_+3)+32 then .error 2 else
     if aG B (cT (s.at_+3)) 16=65535-aG B (cT (s.at_+3)+16) 16 then .ok {s with at_:=cT (s.at_+3)+32,kind:=0,left:=(aG B (cT (s.at_+3)) 16).toNat,last:=decide (aG B s.at_ 1=1)} else .error 4) else
  if aG B (s.at_+1) 2=1 then .ok {s with at_:=s.at_+3,kind:=1,last:=decide (aG B s.at_ 1=1),lits:=dO,du:=jT} else
  if aG B (s.at_+1) 2=2 then(match told B (s.at_+3) with
    |.error e=>.error e
    |.ok (a,l,d)=>.ok {s with at_:=a,kind:=2,last:=decide (aG B s.at_ 1=1),lits:=l,du:=d}) else .error 4
def k7 (s:Int):Int:=if s<8 then 3+s else if s=28 then 258 else 3+(4+s%4)*2^(s/4-1).toNat
def gH (s:Int):Nat:=if s<8∨s=28 then 0 else(s/4-1).toNat
def nZ (d:Int):Int:=if d<4 then 1+d else 1+(2+d%2)*2^(d/2-1).toNat
def ia (d:Int):Nat:=if d<4 then 0 else(d/2-1).toNat
def eK (most:Int) (s:St) (y:Int):Except Int St:=if(s.out.length:Int)<most then .ok {s with out:=s.out++[y]} else .error 6
def eW (B:List Int) (most:Int) (s:St):Except Int St:=match sym s.lits B s.at_ with
  |.error e=>.error e
  |.ok (y,a)=>
    if y<256 then eK most {s with at_:=a} y else
    if y=256 then .ok {s with at_:=a,kind:= -1,ended:=s.last} else
    if 286≤y then .error 4 else
    if 8*B.length<a+gH (y-257) then .error 2 else
    match sym s.du B (a+gH (y-257)) with
    |.error e=>.error e
    |.ok (d,a3)=>if 30≤d then .error 4 else if 8*B.length<a3+ia d then .error 2 else
      if nZ d+aG B a3 (ia d)≤s.out.length then .ok {s with at_:=a3+ia d,ax:=(k7 (y-257)+aG B a (gH (y-257))).toNat,cm:=(nZ d+aG B a3 (ia d)).toNat} else .error 4
def one (B:List Int) (most:Int) (s:St):Except Int St:=
  if 0<s.ax then eK most {s with ax:=s.ax-1} (s.out.getD (s.out.length-s.cm) 0) else
  if s.kind= -1 then dk B s else
  if s.kind≠0 then eW B most s else
  if s.left=0 then .ok {s with kind:= -1,ended:=s.last} else
  if 8*B.length<s.at_+8 then .error 2 else eK most {s with at_:=s.at_+8,left:=s.left-1} (aG B s.at_ 8)
def start:St:=⟨0,[],-1,0,false,[],[],0,0,false⟩
abbrev Oc:=Except Int (List Int×Nat)
inductive iZ (B:List Int) (most:Int):St→Oc→Prop
  |done {s:St}:s.ended=true→iZ B most s (.ok (s.out,(s.at_+7)/8))
  |step {s s':St} {o:Oc}:s.ended=false→one B most s=.ok s'→iZ B most s' o→iZ B most s o
  |fail {s:St} {e:Int}:s.ended=false→one B most s=.error e→iZ B most s (.error e)
def iZ.oy{B:List Int}{most:Int}{s:St}{o:Oc}(h:iZ B most s o):∀ {o':Oc},iZ B most s o'→o=o':=by
  induction h with
  |done h1=>intro o' h;cases h with
    |done _=>rfl
    |step h2 _ _=>rw[h1] at h2;cases h2
    |fail h2 _=>rw[h1] at h2;cases h2
  |step h1 h2 h3 ih=>intro o' h;cases h with
    |done h4=>rw[h1] at h4;cases h4
    |step _ h5 h6=>rw[h2] at h5;cases h5;exact ih h6
    |fail _ h5=>rw[h2] at h5;cases h5
  |fail h1 h2=>intro o' h;cases h with
    |done h4=>rw[h1] at h4;cases h4
    |step _ h5 h6=>rw[h2] at h5;cases h5
    |fail _ h5=>rw[h2] at h5;cases h5;rfl
def fS (B:List Int) (most:Int) (s s':St):Prop:=∀o,iZ B most s' o→iZ B most s o
def fS.refl(B:List Int)(most:Int)(s:St):fS B most s s:=fun _ h=>h
def fS.trans{B:List Int}{most:Int}{s s' s'':St}(h:fS B most s s')(k:fS B most s' s''):fS B most s s'':=fun o r=>h o (k o r)
def fS.one{B:List Int}{most:Int}{s s':St}(h:s.ended=false)(k:one B most s=.ok s'):fS B most s s':=fun o r=>.step h k r
def fS.fail{B:List Int}{most:Int}{s s':St}{e:Int}(g:fS B most s s')(h:s'.ended=false)(k:ab.one B most s'=.error e):iZ B most s (.error e):=g _ (.fail h k)
def jH (ls:List Int):Except Int Unit:=if bp ls=0 then .ok () else .error 4
section
variable {B l:List Int} {s:Int} {a:Nat}
def Hu(h:s<16):rep B s l a=.ok (s,1,a):=if_pos h
def kB(h:¬s<16)(hx:8*B.length<a+dE s):rep B s l a=.error 2:=by unfold rep;rw[if_neg h,if_pos hx]
def Bt(h:s=16)(hl:l=[])(hx:¬8*B.length<a+dE s):rep B s l a=.error 4:=by unfold rep;rw[if_neg omg,if_neg hx,if_pos ⟨h,hl⟩]
def vK(h:¬s<16)(hx:¬8*B.length<a+dE s)(hl:¬(s=16∧l=[])):rep B s l a=.ok (ib s l,iu s+aG B a (dE s),a+dE s):=by unfold rep;rw[if_neg h,if_neg hx,if_neg hl]
end
def DF(B:List Int)(a:Nat):∀k,(gG B a k).length=19
  |0=>by simp[gG]
  |k+1=>by simp[gG,DF B a k]
def xN:bp dO=0:=by decide+kernel
def yw:bp jT=0:=by decide+kernel
def ju:List (Int×Int):=[(8,144),(9,112),(7,24),(8,8)]
def ja:Nat→List Int
  |0=>[]
  |k+1=>ja k++List.replicate (ju.getD k (0,0)).2.toNat (ju.getD k (0,0)).1
def GW:ja 4=dO:=by decide+kernel
def O8:∀k,k≤4→(ja k).length≤288:=by
  intro k hk
  have:k=0∨k=1∨k=2∨k=3∨k=4:=omg
  rcases this with rfl|rfl|rfl|rfl|rfl<;>decide+kernel
def D1{k:Nat}(h:k<19):0≤kx.getD k 0∧kx.getD k 0<19:=by
  have:∀k,k<19→0≤kx.getD k 0∧kx.getD k 0<19:=by decide
  exact this k h
def Cs(B:List Int)(a:Nat):257+aG B a 5=(hL B a:Int)∧1+aG B (a+5) 5=(hD B a:Int)∧4+aG B (a+10) 4=(hC B a:Int)∧hL B a≤288∧hD B a≤32∧hC B a≤19∧4≤hC B a∧257≤hL B a:=by
  have h1:=aX B a 5
  have h2:=aX B (a+5) 5
  have h3:=aX B (a+10) 4
  unfold hL hD hC
  omega
end Go.ab
namespace Go.ab
open Go.ag Go.ae
def eO{α:Type}(E:Except Int α):(∃e,E=.error e)∨∃x,E=.ok x:=by
  cases E with
  |error e=>exact .inl ⟨e,rfl⟩
  |ok x=>exact .inr ⟨x,rfl⟩
def vc{ls B:List Int}{a:Nat}:∀ {r n n':Nat} {s:Int},nJ ls B a r n=.uP n' s→n<n'∧a+n'≤8*B.length∧(s∈ord ls∨s=0):=by
  intro r
  induction r with
  |zero=>intro n n' s h;simp[nJ] at h
  |succ r ih=>
    intro n n' s h
    simp only[nJ] at h
    split at h
    · rename_i h1
      split at h
      · cases h
        refine⟨omg,omg,?_⟩
        rw[List.getD_eq_getElem?_getD]
        cases hh:(ord ls)[off ls (n+1)+(acc B a (n+1)-base ls (n+1)).toNat]? with
        |none=>exact .inr rfl
        |some x=>exact .inl (List.mem_of_getElem? hh)
      · have:=ih h;exact⟨omg,this.2.1,this.2.2⟩
    · cases h
def sW{ls B:List Int}{a a':Nat}{s:Int}(hE:bp ls=0)(h0:0<ls.length)(h:sym ls B a=.ok (s,a')):0≤s∧s<ls.length∧a<a'∧a'≤8*B.length:=by
  unfold sym at h
  split at h
  · rename_i n s' hs
    cases h
    obtain⟨h1,h2,h3⟩:=vc hs
    have:0≤s∧s<ls.length:=by
      rcases h3 with h3|rfl
      · obtain⟨k1,k2,_⟩:=(uf (je hE).1).1 h3
        omega
      · omega
    omega
  · cases h
  · cases h
def AG{B l:List Int}{s x n:Int}{a a':Nat}(ha:a≤8*B.length)(h:rep B s l a=.ok (x,n,a')):1≤n∧n<200∧a≤a'∧a'≤8*B.length:=by
  unfold rep at h
  split at h
  · cases h;omega
  split at h
  · cases h
  split at h
  · cases h
  cases h
  have hb:=aX B a (dE s)
  have:iu s+aG B a (dE s)<200∧1≤iu s:=by
    unfold iu
    unfold dE at hb ⊢
    by_cases h1:s=16
    · rw[if_pos h1] at hb ⊢;rw[if_neg omg];omega
    · by_cases h2:s=17
      · rw[if_neg h1,if_pos h2] at hb ⊢;rw[if_neg omg];omega
      · rw[if_neg h1,if_neg h2] at hb ⊢;split<;>omega
  omega
section
variable {B c l l':List Int} {tot f a a':Nat} {e s x n:Int}
def mG(h:tot≤l.length):fg B c tot f l a=.ok (l,a):=by
  cases f with
  |zero=>rfl
  |succ f=>simp only[fg];rw[if_neg omg]
def jy(h:l.length<tot)(hf:tot≤f+l.length)(k:ly B c l a=.error e):fg B c tot f l a=.error e:=by
  obtain⟨f,rfl⟩:∃g,f=g+1:=⟨f-1,omg⟩
  simp only[fg];rw[if_pos h,k]
def l5(h:l.length<tot)(hf:tot≤f+l.length)(k:ly B c l a=.ok (l',a'))(hl:l'.length≤tot):fg B c tot f l a=fg B c tot (f-1) l' a':=by
  obtain⟨f,rfl⟩:∃g,f=g+1:=⟨f-1,omg⟩
  simp only[fg];rw[if_pos h,k];simp only;rw[if_pos hl];rfl
def oJ(h:l.length<tot)(hf:tot≤f+l.length)(k:ly B c l a=.ok (l',a'))(hl:¬l'.length≤tot):fg B c tot f l a=.error 4:=by
  obtain⟨f,rfl⟩:∃g,f=g+1:=⟨f-1,omg⟩
  simp only[fg];rw[if_pos h,k];simp only;rw[if_neg hl]
def rJ(h:sym c B a=.error e):ly B c l a=.error e:=by unfold ly;rw[h]
def kD(h:sym c B a=.ok (s,a'))(k:rep B s l a'=.error e):ly B c l a=.error e:=by unfold ly;rw[h];simp only;rw[k]
def hJ{a'':Nat}(h:sym c B a=.ok (s,a'))(k:rep B s l a'=.ok (x,n,a'')):ly B c l a=.ok (l++List.replicate n.toNat x,a''):=by unfold ly;rw[h];simp only;rw[k]
end
def FW(B c l:List Int)(a:Nat):(∃e,sym c B a=.error e)∨(∃s a' e,sym c B a=.ok (s,a')∧rep B s l a'=.error e)∨(∃s a' x n a'',sym c B a=.ok (s,a')∧rep B s l a'=.ok (x,n,a'')):=by
  rcases eO (sym c B a) with⟨e,h⟩|⟨⟨s,a'⟩,h⟩
  · exact .inl ⟨e,h⟩
  · rcases eO (rep B s l a') with⟨e,k⟩|⟨⟨x,n,a''⟩,k⟩
    · exact .inr (.inl ⟨s,a',e,h,k⟩)
    · exact .inr (.inr ⟨s,a',x,n,a'',h,k⟩)
def bX (B:List Int) (a:Nat):List Int:=gG B (a+14) (hC B a)
def cu (B:List Int) (a:Nat):Nat:=hL B a+hD B a
def dG (B:List Int) (a:Nat):Nat:=a+14+3*hC B a
section
variable {B l:List Int} {a a':Nat} {e:Int}
def tD(h:8*B.length<a+14):told B a=.error 2:=if_pos h
def tw(h:a+14≤8*B.length)(k:¬(hL B a≤286∧hD B a≤30)):told B a=.error 4:=by
  unfold told;rw[if_neg omg,if_pos k]
def AW(h:a+14≤8*B.length)(k:hL B a≤286∧hD B a≤30)(x:8*B.length<dG B a):told B a=.error 2:=by
  unfold told;rw[if_neg omg,if_neg (fun h=>h k)];exact if_pos x
def BD(h:a+14≤8*B.length)(k:hL B a≤286∧hD B a≤30)(x:dG B a≤8*B.length)(y:bp (bX B a)≠0):told B a=.error 4:=by
  unfold told;rw[if_neg omg,if_neg (fun h=>h k),if_neg (by unfold dG at x;omega)];exact if_pos y
def yt(h:a+14≤8*B.length)(k:hL B a≤286∧hD B a≤30)(x:dG B a≤8*B.length)(y:bp (bX B a)=0):told B a=(match fg B (bX B a) (cu B a) (cu B a) [] (dG B a) with
    |.error e=>.error e
    |.ok (l,a')=>if bp (l.take (hL B a))≠0∨bp (l.drop (hL B a))≠0∨l.getD 256 0=0 then .error 4 else .ok (a',l.take (hL B a),l.drop (hL B a))):=by
  unfold told;rw[if_neg omg,if_neg (fun h=>h k),if_neg (by unfold dG at x;omega)];exact if_neg (fun h=>h y)
def jR(h:a+14≤8*B.length)(k:hL B a≤286∧hD B a≤30)(x:dG B a≤8*B.length)(y:bp (bX B a)=0)(z:fg B (bX B a) (cu B a) (cu B a) [] (dG B a)=.error e):told B a=.error e:=by
  rw[yt h k x y,z]
def nw(h:a+14≤8*B.length)(k:hL B a≤286∧hD B a≤30)(x:dG B a≤8*B.length)(y:bp (bX B a)=0)(z:fg B (bX B a) (cu B a) (cu B a) [] (dG B a)=.ok (l,a'))(q:bp (l.take (hL B a))≠0∨bp (l.drop (hL B a))≠0∨l.getD 256 0=0):told B a=.error 4:=by
  rw[yt h k x y,z];exact if_pos q
def AA(h:a+14≤8*B.length)(k:hL B a≤286∧hD B a≤30)(x:dG B a≤8*B.length)(y:bp (bX B a)=0)(z:fg B (bX B a) (cu B a) (cu B a) [] (dG B a)=.ok (l,a'))(q1:bp (l.take (hL B a))=0)(q2:bp (l.drop (hL B a))=0)(q3:l.getD 256 0≠0):told B a=.ok (a',l.take (hL B a),l.drop (hL B a)):=by
  rw[yt h k x y,z];exact if_neg (fun h=>by rcases h with h|h|h;exact h q1;exact h q2;exact q3 h)
end
def fc(B:List Int)(a:Nat):(bX B a).length=19:=DF _ _ _
def Oz{k:Nat}(h:k<4):(ju.getD k (0,0)).2=((ju.getD k (0,0)).2.toNat:Int)∧(ju.getD k (0,0)).2.toNat<200:=by
  have:∀k,k<4→(ju.getD k (0,0)).2=((ju.getD k (0,0)).2.toNat:Int)∧(ju.getD k (0,0)).2.toNat<200:=by decide
  exact this k h
def CV{ls:List Int}(hE:bp ls=0)(i:Nat):0≤ls.getD i 0:=by
  have hV:=(je hE).1
  rw[List.getD_eq_getElem?_getD]
  cases h:ls[i]? with
  |none=>exact Int.le_refl _
  |some x=>exact(hV.2 x (List.mem_of_getElem? h)).1
def getD_take{l:List Int}{n i:Nat}(h:i<n):(l.take n).getD i 0=l.getD i 0:=by
  simp[List.getD_eq_getElem?_getD,List.getElem?_take,h]
end Go.ab
namespace Go.ab
open Go.ag
def GL(k:Nat):ja (k+1)=ja k++List.replicate (ju.getD k (0,0)).2.toNat (ju.getD k (0,0)).1:=rfl
def WQ{k:Nat}(h:k<4):0≤(ju.getD k (0,0)).2∧(ju.getD k (0,0)).2<200:=by have:=Oz h;omega
def z8(B:List Int)(a:Nat):gG B a 0=List.replicate 19 0:=rfl
def BZ(B:List Int)(a k:Nat):gG B a (k+1)=(gG B a k).set (kx.getD k 0).toNat (aG B (a+3*k) 3):=rfl
def Yj(n a:Nat):8*n<a+5∨(a+5≤8*n∧8*n<a+10)∨(a+10≤8*n∧8*n<a+14)∨a+14≤8*n:=omg
def UC(p q:Prop):(p∧q)∨(p∧¬q)∨¬p:=by
  rcases Classical.em p with h|h
  · rcases Classical.em q with k|k
    · exact .inl ⟨h,k⟩
    · exact .inr (.inl ⟨h,k⟩)
  · exact .inr (.inr h)
def vj(B:List Int)(a:Nat):cu B a=hL B a+hD B a:=rfl
def vA(B:List Int)(a:Nat):dG B a=a+14+3*hC B a:=rfl
def qZ(B:List Int)(a:Nat):bX B a=gG B (a+14) (hC B a):=rfl
end Go.ab
namespace Go.ab
end Go.ab
namespace Go.ab
open Go.ag Go.ae
def eL (B:List Int) (s:Int) (a:Nat):Except Int (Int×Nat):=if 29≤s then .error 4 else if 8*B.length<a+gH s then .error 2 else .ok (k7 s+aG B a (gH s),a+gH s)
def dQ (B ds:List Int) (a:Nat):Except Int (Int×Nat):=match sym ds B a with
 |.error e=>.error e
 |.ok (d,a3)=>if 30≤d then .error 4 else if 8*B.length<a3+ia d then .error 2 else .ok (nZ d+aG B a3 (ia d),a3+ia d)
def tl(B:List Int)(a:Nat):aG B a 0=0:=rfl
section
variable {B:List Int} {s:Int} {a:Nat}
def BP(h:29≤s):eL B s a=.error 4:=if_pos h
def gD (s:Int):Nat:=(s/4-1).toNat
def gO (s:Int):Nat:=(s/2-1).toNat
def Db(h:s<8∨s=28):gH s=0:=if_pos h
def NN(h:8≤s)(h2:s<28):gH s=gD s:=if_neg omg
def Ri(h:s<8):k7 s=3+s:=if_pos h
def RH(h:s=28):k7 s=258:=by unfold k7;rw[if_neg omg];exact if_pos h
def Ye(h:8≤s)(h2:s<28):k7 s=3+(4+s%4)*2^gD s:=by unfold k7;rw[if_neg omg,if_neg omg];rfl
def Eh(h:s<4):ia s=0:=if_pos h
def Gb(h:4≤s):ia s=gO s:=if_neg omg
def C6(h:s<4):nZ s=1+s:=if_pos h
def Oe(h:4≤s):nZ s=1+(2+s%2)*2^gO s:=if_neg omg
def C7(h0:0≤s)(h:s<8)(ha:a≤8*B.length):eL B s a=.ok (3+s,a):=by
 unfold eL
 rw[if_neg omg,Db (.inl h),Ri h,tl,Int.add_zero];exact if_neg omg
def EO(h:s=28)(ha:a≤8*B.length):eL B s a=.ok (258,a):=by
 unfold eL
 rw[if_neg omg,Db (.inr h),RH h,tl,Int.add_zero];exact if_neg omg
def yR(h:8≤s)(h2:s<28)(hx:8*B.length<a+gD s):eL B s a=.error 2:=by
 unfold eL
 rw[if_neg omg,NN h h2];exact if_pos hx
def G9(h:8≤s)(h2:s<28)(hx:a+gD s≤8*B.length):eL B s a=.ok (3+(4+s%4)*2^gD s+aG B a (gD s),a+gD s):=by
 unfold eL
 rw[if_neg omg,NN h h2,Ye h h2];exact if_neg omg
def BN(h:8≤s)(h2:s<28):s/4-1=(gD s:Int)∧gD s≤5∧1≤gD s:=by unfold gD;omega
def wm(h:4≤s)(h2:s<30):s/2-1=(gO s:Int)∧gO s≤13∧1≤gO s:=by unfold gO;omega
end
section
variable {B ds:List Int} {s e:Int} {a a3:Nat}
def Al(h:sym ds B a=.error e):dQ B ds a=.error e:=by unfold dQ;rw[h]
def xy(h:sym ds B a=.ok (s,a3))(k:30≤s):dQ B ds a=.error 4:=by unfold dQ;rw[h];exact if_pos k
def BE(h:sym ds B a=.ok (s,a3))(h0:0≤s)(k:s<4)(ha:a3≤8*B.length):dQ B ds a=.ok (1+s,a3):=by
 unfold dQ;rw[h];simp only;rw[if_neg omg,Eh k,C6 k,tl,Int.add_zero];exact if_neg omg
def vU(h:sym ds B a=.ok (s,a3))(h1:4≤s)(h2:s<30)(hx:8*B.length<a3+gO s):dQ B ds a=.error 2:=by
 unfold dQ;rw[h];simp only;rw[if_neg omg,Gb h1];exact if_pos hx
def Eb(h:sym ds B a=.ok (s,a3))(h1:4≤s)(h2:s<30)(hx:a3+gO s≤8*B.length):dQ B ds a=.ok (1+(2+s%2)*2^gO s+aG B a3 (gO s),a3+gO s):=by
 unfold dQ;rw[h];simp only;rw[if_neg omg,Gb h1,Oe h1];exact if_neg omg
end
def mb{x:Int}{n:Nat}(h0:0≤x)(h1:x<8)(hn:n≤13){d:Int}(hd:d=(n:Int)):IntKind.i64.wrap (x*2^(min d.toNat IntKind.i64.bits))=x*2^n∧0≤x*2^n∧x*2^n<65536:=by
 have e:min d.toNat IntKind.i64.bits=n:=by
  have:IntKind.i64.bits=64:=rfl
  omega
 have hp:(2:Int)^n≤2^13:=by
  have:=Nat.pow_le_pow_right (n:=2) dec hn
  have e2:((2:Int)^n)=((2^n:Nat):Int):=by simp
  rw[e2];exact_mod_cast this
 have h2:(0:Int)<2^n:=Int.pow_pos dec
 have h3:0≤x*2^n:=Int.mul_nonneg h0 (Int.le_of_lt h2)
 have h4:x*2^n≤7*2^13:=Int.le_trans (Int.mul_le_mul_of_nonneg_right (show x≤7 by omega) (Int.le_of_lt h2)) (Int.mul_le_mul_of_nonneg_left hp dec)
 rw[e]
 exact⟨Sl.gI omg omg,h3,omg⟩
def M9{x y:Int}(hx:0≤x∧x<65536)(hy:0≤y∧y<65536):(IntKind.i64.wrap ((BitVec.ofInt IntKind.i64.bits x^^^BitVec.ofInt IntKind.i64.bits y).toNat:Int)=65535)↔x=65535-y:=by
 obtain⟨a,rfl⟩:∃a:Nat,x=(a:Int):=⟨x.toNat,omg⟩
 obtain⟨b,rfl⟩:∃b:Nat,y=(b:Int):=⟨y.toNat,omg⟩
 have e:IntKind.i64.bits=64:=rfl
 have ha:a<2^16:=omg
 have hb:b<2^16:=omg
 have hlt:a^^^b<2^16:=Nat.xor_lt_two_pow ha hb
 rw[e,BitVec.toNat_xor,dU,dU,Nat.mod_eq_of_lt omg,Nat.mod_eq_of_lt omg,Sl.gI omg omg]
 have hc:b^^^65535=65535-b:=by
  have h1:(BitVec.ofNat 16 b^^^BitVec.allOnes 16)= ~~~(BitVec.ofNat 16 b):=BitVec.xor_allOnes
  have h2:=congrArg BitVec.toNat h1
  rw[BitVec.toNat_xor,BitVec.toNat_not,BitVec.toNat_ofNat,BitVec.toNat_allOnes,Nat.mod_eq_of_lt hb] at h2
  exact h2
 constructor
 ·intro h
  have h':a^^^b=65535:=omg
  have:a=65535^^^b:=by rw[←h',Nat.xor_assoc,Nat.xor_self,Nat.xor_zero]
  rw[Nat.xor_comm,hc] at this
  omega
 ·intro h
  have h':a=65535-b:=omg
  rw[h',←hc,Nat.xor_comm b,Nat.xor_assoc,Nat.xor_self,Nat.xor_zero]
  rfl
section
variable {B:List Int} {s:St} {e:Int}
def zQ(h:8*B.length<s.at_+3):dk B s=.error 2:=if_pos h
def wG(h:s.at_+3≤8*B.length)(k:aG B (s.at_+1) 2=0)(hx:8*B.length<cT (s.at_+3)+32):dk B s=.error 2:=by
 unfold dk;rw[if_neg omg,if_pos k];exact if_pos hx
def Aq(h:s.at_+3≤8*B.length)(k:aG B (s.at_+1) 2=0)(hx:cT (s.at_+3)+32≤8*B.length)(hm:aG B (cT (s.at_+3)) 16≠65535-aG B (cT (s.at_+3)+16) 16):dk B s=.error 4:=by
 unfold dk;rw[if_neg omg,if_pos k,if_neg omg];exact if_neg hm
def th(h:s.at_+3≤8*B.length)(k:aG B (s.at_+1) 2=0)(hx:cT (s.at_+3)+32≤8*B.length)(hm:aG B (cT (s.at_+3)) 16=65535-aG B (cT (s.at_+3)+16) 16):dk B s=.ok {s with at_:=cT (s.at_+3)+32,kind:=0,left:=(aG B (cT (s.at_+3)) 16).toNat,last:=decide (aG B s.at_ 1=1)}:=by
 unfold dk;rw[if_neg omg,if_pos k,if_neg omg];exact if_pos hm
def zN(h:s.at_+3≤8*B.length)(k:aG B (s.at_+1) 2=1):dk B s=.ok {s with at_:=s.at_+3,kind:=1,last:=decide (aG B s.at_ 1=1),lits:=dO,du:=jT}:=by
 unfold dk;rw[if_neg omg,if_neg omg];exact if_pos k
def BX(h:s.at_+3≤8*B.length)(k:aG B (s.at_+1) 2=2)(t:told B (s.at_+3)=.error e):dk B s=.error e:=by
 unfold dk;rw[if_neg omg,if_neg omg,if_neg omg,if_pos k,t]
def xa{a:Nat}{l d:List Int}(h:s.at_+3≤8*B.length)(k:aG B (s.at_+1) 2=2)(t:told B (s.at_+3)=.ok (a,l,d)):dk B s=.ok {s with at_:=a,kind:=2,last:=decide (aG B s.at_ 1=1),lits:=l,du:=d}:=by
 unfold dk;rw[if_neg omg,if_neg omg,if_neg omg,if_pos k,t]
def Cb(h:s.at_+3≤8*B.length)(k:aG B (s.at_+1) 2≠0)(k1:aG B (s.at_+1) 2≠1)(k2:aG B (s.at_+1) 2≠2):dk B s=.error 4:=by
 unfold dk;rw[if_neg omg,if_neg k,if_neg k1];exact if_neg k2
end
section
variable {B:List Int} {most:Int} {s:St} {y n f e:Int} {a a2 a3:Nat}
def tG(h:sym s.lits B s.at_=.error e):eW B most s=.error e:=by unfold eW;rw[h]
def mc(h:sym s.lits B s.at_=.ok (y,a))(k:y<256):eW B most s=eK most {s with at_:=a} y:=by unfold eW;rw[h];exact if_pos k
def ou(h:sym s.lits B s.at_=.ok (y,a))(k:y=256):eW B most s=.ok {s with at_:=a,kind:= -1,ended:=s.last}:=by unfold eW;rw[h];simp only;rw[if_neg omg];exact if_pos k
def we(h:sym s.lits B s.at_=.ok (y,a))(k:256<y):eW B most s=(match eL B (y-257) a with
  |.error e=>.error e
  |.ok (n,a2)=>match dQ B s.du a2 with
   |.error e=>.error e
   |.ok (f,a3)=>if f≤s.out.length then .ok {s with at_:=a3,ax:=n.toNat,cm:=f.toNat} else .error 4):=by
 unfold eW eL;rw[h];simp only
 rw[if_neg omg,if_neg omg]
 by_cases h1:286≤y
 ·rw[if_pos h1,if_pos (show 29≤y-257 by omega)]
 ·rw[if_neg h1,if_neg (show¬29≤y-257 by omega)]
  by_cases h2:8*B.length<a+gH (y-257)
  ·rw[if_pos h2,if_pos h2]
  ·rw[if_neg h2,if_neg h2]
   unfold dQ
   simp only
   cases hs:sym s.du B (a+gH (y-257)) with
   |error e=>rfl
   |ok q=>
    obtain⟨d,a3⟩:=q
    simp only
    by_cases h3:30≤d
    ·rw[if_pos h3,if_pos h3]
    ·rw[if_neg h3,if_neg h3]
     by_cases h4:8*B.length<a3+ia d
     ·rw[if_pos h4,if_pos h4]
     ·rw[if_neg h4,if_neg h4]
def rI(h:sym s.lits B s.at_=.ok (y,a))(k:256<y)(l:eL B (y-257) a=.error e):eW B most s=.error e:=by rw[we h k,l]
def o0(h:sym s.lits B s.at_=.ok (y,a))(k:256<y)(l:eL B (y-257) a=.ok (n,a2))(w:dQ B s.du a2=.error e):eW B most s=.error e:=by rw[we h k,l];simp only;rw[w]
def ug(h:sym s.lits B s.at_=.ok (y,a))(k:256<y)(l:eL B (y-257) a=.ok (n,a2))(w:dQ B s.du a2=.ok (f,a3))(q:¬f≤s.out.length):eW B most s=.error 4:=by rw[we h k,l];simp only;rw[w];exact if_neg q
def ue(h:sym s.lits B s.at_=.ok (y,a))(k:256<y)(l:eL B (y-257) a=.ok (n,a2))(w:dQ B s.du a2=.ok (f,a3))(q:f≤s.out.length):eW B most s=.ok {s with at_:=a3,ax:=n.toNat,cm:=f.toNat}:=by rw[we h k,l];simp only;rw[w];exact if_pos q
end
def yM{B:List Int}{s n:Int}{a a2:Nat}(h0:0≤s)(ha:a≤8*B.length)(h:eL B s a=.ok (n,a2)):3≤n∧n<400∧a≤a2∧a2≤8*B.length:=by
 by_cases h1:s<8
 ·rw[C7 h0 h1 ha] at h;cases h;omega
 by_cases h2:29≤s
 ·rw[BP h2] at h;cases h
 by_cases h3:s=28
 ·rw[EO h3 ha] at h;cases h;omega
 by_cases h4:a+gD s≤8*B.length
 ·rw[G9 omg omg h4] at h;cases h
  obtain⟨k1,k2,k3⟩:=BN (s:=s) omg omg
  have hb:=aX B a (gD s)
  have:gD s=1∨gD s=2∨gD s=3∨gD s=4∨gD s=5:=omg
  rcases this with e|e|e|e|e<;>rw[e] at hb ⊢<;>omega
 ·rw[yR omg omg omg] at h;cases h
def E3{B ds:List Int}{n:Int}{a a3:Nat}(hE:bp ds=0)(hd:0<ds.length)(h:dQ B ds a=.ok (n,a3)):1≤n∧n<100000∧a≤a3∧a3≤8*B.length:=by
 cases hs:sym ds B a with
 |error e=>rw[Al hs] at h;cases h
 |ok q=>
  obtain⟨s,b⟩:=q
  have hg:=sW hE hd hs
  by_cases h2:30≤s
  ·rw[xy hs h2] at h;cases h
  by_cases h1:s<4
  ·rw[BE hs hg.1 h1 hg.2.2.2] at h;cases h;omega
  by_cases h4:b+gO s≤8*B.length
  ·rw[Eb hs omg omg h4] at h;cases h
   obtain⟨k1,k2,k3⟩:=wm (s:=s) omg omg
   have hb:=aX B b (gO s)
   obtain⟨_,m1,m2⟩:=mb (x:=2+s%2) (n:=gO s) omg omg omg rfl
   have hp:(2:Int)^gO s≤2^13:=by
    have:=Nat.pow_le_pow_right (n:=2) dec k2
    have e2:((2:Int)^gO s)=((2^gO s:Nat):Int):=by simp
    rw[e2];exact_mod_cast this
   omega
  ·rw[vU hs omg omg omg] at h;cases h
end Go.ab
namespace Go.ab
open Go.ag Go.ae
def Il{B:List Int}{s:Int}{a:Nat}(h0:0≤s)(ha:a≤8*B.length):(∃e,eL B s a=.error e)∨∃n a2:Nat,eL B s a=.ok ((n:Int),a2)∧3≤n∧n<400∧a≤a2∧a2≤8*B.length:=by
 rcases eO (eL B s a) with h|⟨⟨n,a2⟩,h⟩
 ·exact .inl h
 ·have hg:=yM h0 ha h
  refine .inr ⟨n.toNat,a2,?_,omg,omg,hg.2.2.1,hg.2.2.2⟩
  rw[h,Int.toNat_of_nonneg omg]
def Es{B ds:List Int}{a:Nat}(hE:bp ds=0)(hd:0<ds.length):(∃e,dQ B ds a=.error e)∨∃f a2:Nat,dQ B ds a=.ok ((f:Int),a2)∧1≤f∧f<100000∧a≤a2∧a2≤8*B.length:=by
 rcases eO (dQ B ds a) with h|⟨⟨n,a2⟩,h⟩
 ·exact .inl h
 ·have hg:=E3 hE hd h
  refine .inr ⟨n.toNat,a2,?_,omg,omg,hg.2.2.1,hg.2.2.2⟩
  rw[h,Int.toNat_of_nonneg omg]
def qL{B ls:List Int}{a:Nat}(hE:bp ls=0)(hd:0<ls.length):(∃e,sym ls B a=.error e)∨∃(y:Int) (a2:Nat),sym ls B a=.ok (y,a2)∧0≤y∧y<ls.length∧a<a2∧a2≤8*B.length:=by
 rcases eO (sym ls B a) with h|⟨⟨y,a2⟩,h⟩
 ·exact .inl h
 ·exact .inr ⟨y,a2,h,sW hE hd h⟩
def TX{a n:Nat}(h:a≤8*n):cT a≤8*n∧a≤cT a:=by unfold cT;omega
structure Ok (B:List Int) (mo:Int) (s:St):Prop where
 at_:s.at_≤8*B.length
 room:(s.out.length:Int)≤mo
 wH:aq s.out
 kind:s.kind= -1∨s.kind=0∨s.kind=1∨s.kind=2
 left:s.left<65536
 Fp:0<s.kind→bp s.lits=0∧bp s.du=0∧0<s.lits.length∧0<s.du.length
 ax:s.ax<400
 cm:0<s.ax→1≤s.cm∧s.cm≤s.out.length
def GU{B l d:List Int}{a a':Nat}(h:told B a=.ok (a',l,d)):bp l=0∧bp d=0∧0<l.length∧0<d.length∧a<a'∧a'≤8*B.length:=by
 by_cases h1:8*B.length<a+14
 ·rw[tD h1] at h;cases h
 by_cases h2':¬(hL B a≤286∧hD B a≤30)
 ·rw[tw omg h2'] at h;cases h
 have h2:=Classical.not_not.1 h2'
 by_cases h3:8*B.length<dG B a
 ·rw[AW omg h2 h3] at h;cases h
 by_cases h4':bp (bX B a)≠0
 ·rw[BD omg h2 omg h4'] at h;cases h
 have h4:=Classical.not_not.1 h4'
 cases h5:fg B (bX B a) (cu B a) (cu B a) [] (dG B a) with
 |error e=>rw[jR omg h2 omg h4 h5] at h;cases h
 |ok q=>
  obtain⟨ls,a2⟩:=q
  by_cases h6:bp (ls.take (hL B a))≠0∨bp (ls.drop (hL B a))≠0∨ls.getD 256 0=0
  ·rw[nw omg h2 omg h4 h5 h6] at h;cases h
  ·have h7:bp (ls.take (hL B a))=0:=by
    rcases Classical.em (bp (ls.take (hL B a))=0) with k|k
    ·exact k
    ·exact(h6 (.inl k)).elim
   have h8:bp (ls.drop (hL B a))=0:=by
    rcases Classical.em (bp (ls.drop (hL B a))=0) with k|k
    ·exact k
    ·exact(h6 (.inr (.inl k))).elim
   have h9:ls.getD 256 0≠0:=fun k=>h6 (.inr (.inr k))
   rw[AA omg h2 omg h4 h5 h7 h8 h9] at h
   cases h
   have key:∀(f:Nat) (l:List Int) (x:Nat),cu B a≤f+l.length→l.length≤cu B a→x≤8*B.length→fg B (bX B a) (cu B a) f l x=.ok (ls,a')→ls.length=cu B a∧x≤a'∧a'≤8*B.length:=by
    intro f
    induction f with
    |zero=>intro l x k1 k2 k3 k4;rw[mG omg] at k4;cases k4;exact⟨omg,Nat.le_refl _,k3⟩
    |succ f ih=>
     intro l x k1 k2 k3 k4
     by_cases hl:cu B a≤l.length
     ·rw[mG hl] at k4;cases k4;exact⟨omg,Nat.le_refl _,k3⟩
     ·rcases FW B (bX B a) l x with⟨e,hs⟩|⟨sy,x2,e,hs,hr⟩|⟨sy,x2,v,n,x3,hs,hr⟩
      ·rw[jy omg k1 (rJ hs)] at k4;cases k4
      ·rw[jy omg k1 (kD hs hr)] at k4;cases k4
      ·have hsg:=sW h4 (by rw[fc];omega) hs
       have hrg:=AG hsg.2.2.2 hr
       by_cases hb:(l++List.replicate n.toNat v).length≤cu B a
       ·rw[l5 omg k1 (hJ hs hr) hb] at k4
        have:=ih _ _ (by rw[List.length_append,List.length_replicate];omega) hb hrg.2.2.2 k4
        exact⟨this.1,omg,this.2.2⟩
       ·rw[oJ omg k1 (hJ hs hr) hb] at k4;cases k4
   have hA:=vA B a
   have:=key _ [] _ (Nat.le_add_right _ _) (Nat.zero_le _) (show dG B a≤8*B.length by omega) h5
   have hN:=vj B a
   have hd:=Cs B a
   have hn2:=aX B (a+5) 5
   refine⟨h7,h8,?_,?_,omg,this.2.2⟩
   ·rw[List.length_take];omega
   ·rw[List.length_drop]
    have:1≤hD B a:=omg
    omega
end Go.ab
namespace Go.ab
open Go.ag Go.ae
def qR{ls:List Int}(h:bp ls=0):ls.length≤320:=(je h).1.1
def w7(a:Nat):cT a=(a+7)/8*8:=rfl
def Xr(n a:Nat):8*n<a+16∨(a+16≤8*n∧8*n<a+32)∨a+32≤8*n:=omg
end Go.ab
namespace Go.ab
open Go.ag Go.ae
section
variable {B:List Int} {mo y e:Int} {s s2:St} {at_:Nat}
def nj(h:eK mo s y=.ok s2):(s.out.length:Int)<mo∧s2= {s with out:=s.out++[y]}:=by
  unfold eK at h
  split at h
  · cases h;rename_i k;exact⟨k,rfl⟩
  · cases h
def mH(h:(s.out.length:Int)<mo):eK mo s y=.ok {s with out:=s.out++[y]}:=if_pos h
def lr(h:¬(s.out.length:Int)<mo):eK mo s y=.error 6:=if_neg h
def Sa(h:eK mo {s with at_:=at_} y=.error e):eK mo s y=.error e:=by
  by_cases k:(s.out.length:Int)<mo
  · rw[mH (s:= {s with at_:=at_}) k] at h;cases h
  · rw[lr (s:= {s with at_:=at_}) k] at h;rw[lr k];exact h
def TY(B:List Int)(a:Nat)(mo:Int)(s:St)(y:Int):8*B.length<a+8∨(a+8≤8*B.length∧∃e,eK mo s y=.error e)∨(a+8≤8*B.length∧∃s2,eK mo s y=.ok s2):=by
  rcases Nat.lt_or_ge (8*B.length) (a+8) with h|h
  · exact .inl h
  · rcases eO (eK mo s y) with k|k
    · exact .inr (.inl ⟨h,k⟩)
    · exact .inr (.inr ⟨h,k⟩)
def GJ(h:0<s.ax)(k:(s.out.length:Int)<mo):one B mo s=.ok {s with ax:=s.ax-1,out:=s.out++[s.out.getD (s.out.length-s.cm) 0]}:=by
  unfold one;rw[if_pos h];exact mH k
def IN(h:0<s.ax)(k:eK mo s (s.out.getD (s.out.length-s.cm) 0)=.error e):one B mo s=.error e:=by
  unfold one;rw[if_pos h]
  by_cases q:(s.out.length:Int)<mo
  · rw[mH q] at k;cases k
  · rw[lr q] at k;rw[←k];exact lr q
def kS(h:¬0<s.ax)(k:s.kind= -1):one B mo s=dk B s:=by unfold one;rw[if_neg h,if_pos k]
def jF(h:¬0<s.ax)(k:¬s.kind= -1)(k0:s.kind≠0):one B mo s=eW B mo s:=by unfold one;rw[if_neg h,if_neg k,if_pos k0]
def qF(h:¬0<s.ax)(k:¬s.kind= -1)(k0:s.kind=0)(l:s.left=0):one B mo s=.ok {s with kind:= -1,ended:=s.last}:=by unfold one;rw[if_neg h,if_neg k,if_neg omg,if_pos l]
def sC(h:¬0<s.ax)(k:¬s.kind= -1)(k0:s.kind=0)(l:¬s.left=0)(x:8*B.length<s.at_+8):one B mo s=.error 2:=by unfold one;rw[if_neg h,if_neg k,if_neg omg,if_neg l,if_pos x]
def pS(h:¬0<s.ax)(k:¬s.kind= -1)(k0:s.kind=0)(l:¬s.left=0)(x:s.at_+8≤8*B.length):one B mo s=eK mo {s with at_:=s.at_+8,left:=s.left-1} (aG B s.at_ 8):=by unfold one;rw[if_neg h,if_neg k,if_neg omg,if_neg l,if_neg omg]
def one_le(h:¬0<s.ax)(k:¬s.kind= -1)(k0:s.kind=0)(l:¬s.left=0)(x:s.at_+8≤8*B.length)(p:eK mo {s with at_:=s.at_+8} (aG B s.at_ 8)=.error e):one B mo s=.error e:=by
  rw[pS h k k0 l x]
  by_cases q:(s.out.length:Int)<mo
  · rw[mH (s:= {s with at_:=s.at_+8}) q] at p;cases p
  · rw[lr (s:= {s with at_:=s.at_+8}) q] at p;rw[←p];exact lr q
def BT(h:¬0<s.ax)(k:¬s.kind= -1)(k0:s.kind=0)(l:¬s.left=0)(x:s.at_+8≤8*B.length)(q:(s.out.length:Int)<mo):one B mo s=.ok {s with at_:=s.at_+8,left:=s.left-1,out:=s.out++[aG B s.at_ 8]}:=by
  rw[pS h k k0 l x];exact mH q
end
end Go.ab
namespace Go.ab
open Go.ag Go.ae
def ry:dO.length=288:=by decide+kernel
def vB:jT.length=32:=by decide+kernel
def mu (B:List Int) (s:St):Nat:=(8*B.length-s.at_)*1000+s.ax+(if s.kind= -1 then 0 else 1)
def Oq{B:List Int}{s:St}(h:s.kind= -1):mu B s=(8*B.length-s.at_)*1000+s.ax:=by unfold mu;rw[if_pos h,Nat.add_zero]
def Wz{B:List Int}{s:St}(h:¬s.kind= -1):mu B s=(8*B.length-s.at_)*1000+s.ax+1:=by unfold mu;rw[if_neg h]
def rk(B:List Int)(s:St):mu B s≤(8*B.length-s.at_)*1000+s.ax+1:=by unfold mu;split<;>omega
def OW{l:List Int}{y:Int}(h:aq l)(hy:0≤y∧y<256):aq (l++[y]):=by
  intro x hx
  rcases List.mem_append.1 hx with hx|hx
  · exact h x hx
  · rw[List.mem_singleton.1 hx];exact hy
structure Good (B:List Int) (mo:Int) (s s2:St):Prop where
  ok:Ok B mo s2
  less:mu B s2<mu B s
  le:s.out.length≤s2.out.length
  one:s2.out.length≤s.out.length+1
def vG{B:List Int}{mo:Int}{s s1 s2:St}{y:Int}(hy:0≤y∧y<256)(h:eK mo s1 y=.ok s2)(ho:s1.out=s.out)(hok:Ok B mo s1)(hl:mu B s1<mu B s)(hf:s1.ax=0∨True):Good B mo s s2:=by
  obtain⟨k,rfl⟩:=nj h
  refine⟨⟨hok.at_,by simp;omega,OW hok.wH hy,hok.kind,hok.left,hok.Fp,hok.ax,fun h=>?_⟩,hl,by simp[ho],by simp[ho]⟩
  have:=hok.cm h
  simp;omega
def dX{B:List Int}{mo:Int}{s s2:St}(hB:aq B)(hok:Ok B mo s)(h:one B mo s=.ok s2):Good B mo s s2:=by
  obtain⟨q1,q2,q3,q4,q5,q6,q7,q8⟩:=hok
  by_cases hc:0<s.ax
  · have he:eK mo {s with ax:=s.ax-1} (s.out.getD (s.out.length-s.cm) 0)=.ok s2:=by unfold one at h;rw[if_pos hc] at h;exact h
    refine vG (q3.get _) he rfl ⟨q1,q2,q3,q4,q5,q6,by show s.ax-1<400;omega,fun _=>q8 hc⟩ ?_ (.inr trivial)
    show(8*B.length-s.at_)*1000+(s.ax-1)+(if s.kind= -1 then 0 else 1)<(8*B.length-s.at_)*1000+s.ax+(if s.kind= -1 then 0 else 1)
    omega
  by_cases hk:s.kind= -1
  · rw[kS hc hk] at h
    by_cases h1:8*B.length<s.at_+3
    · rw[zQ h1] at h;cases h
    have hx1:s.at_+3≤8*B.length:=omg
    have hm:=Oq (B:=B) hk
    by_cases k0:aG B (s.at_+1) 2=0
    · by_cases hx:8*B.length<cT (s.at_+3)+32
      · rw[wG hx1 k0 hx] at h;cases h
      · by_cases hn:aG B (cT (s.at_+3)) 16=65535-aG B (cT (s.at_+3)+16) 16
        · rw[th hx1 k0 omg hn] at h;cases h
          have hb:=aX B (cT (s.at_+3)) 16
          have ha:=w7 (s.at_+3)
          refine⟨⟨by show cT (s.at_+3)+32≤_;omega,q2,q3,.inr (.inl rfl),by show(aG B (cT (s.at_+3)) 16).toNat<65536;omega,fun h=>absurd h (by show¬(0:Int)<0;omega),q7,q8⟩,?_,Nat.le_refl _,Nat.le_succ _⟩
          refine Nat.lt_of_le_of_lt (rk B _) ?_
          rw[hm]
          show(8*B.length-(cT (s.at_+3)+32))*1000+s.ax+1<_
          omega
        · rw[Aq hx1 k0 omg hn] at h;cases h
    · by_cases k1:aG B (s.at_+1) 2=1
      · rw[zN hx1 k1] at h;cases h
        refine⟨⟨hx1,q2,q3,.inr (.inr (.inl rfl)),q5,fun _=>⟨xN,yw,by show 0<dO.length;rw[ry];decide,by show 0<jT.length;rw[vB];decide⟩,q7,q8⟩,?_,Nat.le_refl _,Nat.le_succ _⟩
        refine Nat.lt_of_le_of_lt (rk B _) ?_
        rw[hm]
        show(8*B.length-(s.at_+3))*1000+s.ax+1<_
        omega
      · by_cases k2:aG B (s.at_+1) 2=2
        · rcases eO (told B (s.at_+3)) with⟨e,ht⟩|⟨⟨a,l,d⟩,ht⟩
          · rw[BX hx1 k2 ht] at h;cases h
          · rw[xa hx1 k2 ht] at h;cases h
            obtain⟨t1,t2,t3,t4,t5,t6⟩:=GU ht
            refine⟨⟨t6,q2,q3,.inr (.inr (.inr rfl)),q5,fun _=>⟨t1,t2,t3,t4⟩,q7,q8⟩,?_,Nat.le_refl _,Nat.le_succ _⟩
            refine Nat.lt_of_le_of_lt (rk B _) ?_
            rw[hm]
            show(8*B.length-a)*1000+s.ax+1<_
            omega
        · rw[Cb hx1 k0 k1 k2] at h;cases h
  have hm:=Wz (B:=B) hk
  by_cases hk0:s.kind=0
  · by_cases hl:s.left=0
    · rw[qF hc hk hk0 hl] at h;cases h
      refine⟨⟨q1,q2,q3,.inl rfl,q5,fun h=>absurd h (by show¬(0:Int)< -1;omega),q7,q8⟩,?_,Nat.le_refl _,Nat.le_succ _⟩
      rw[hm,Oq rfl]
      show(8*B.length-s.at_)*1000+s.ax<_
      omega
    · by_cases hx:8*B.length<s.at_+8
      · rw[sC hc hk hk0 hl hx] at h;cases h
      · rw[pS hc hk hk0 hl omg] at h
        have hb:=aX B s.at_ 8
        refine vG omg h rfl ⟨by show s.at_+8≤_;omega,q2,q3,q4,by show s.left-1<65536;omega,q6,q7,q8⟩ ?_ (.inr trivial)
        refine Nat.lt_of_le_of_lt (rk B _) ?_
        rw[hm]
        show(8*B.length-(s.at_+8))*1000+s.ax+1<_
        omega
  · rw[jF hc hk hk0] at h
    have hkp:0<s.kind:=omg
    obtain⟨e1,e2,z1,z2⟩:=q6 hkp
    rcases qL (B:=B) (a:=s.at_) e1 z1 with⟨e,hs⟩|⟨y,a1,hs,y0,y1,a0,ha1⟩
    · rw[tG hs] at h;cases h
    by_cases hy:y<256
    · rw[mc hs hy] at h
      refine vG omg h rfl ⟨ha1,q2,q3,q4,q5,q6,q7,q8⟩ ?_ (.inr trivial)
      refine Nat.lt_of_le_of_lt (rk B _) ?_
      rw[hm]
      show(8*B.length-a1)*1000+s.ax+1<_
      omega
    by_cases hy2:y=256
    · rw[ou hs hy2] at h;cases h
      refine⟨⟨ha1,q2,q3,.inl rfl,q5,fun h=>absurd h (by show¬(0:Int)< -1;omega),q7,q8⟩,?_,Nat.le_refl _,Nat.le_succ _⟩
      refine Nat.lt_of_le_of_lt (rk B _) ?_
      rw[hm]
      show(8*B.length-a1)*1000+s.ax+1<_
      omega
    rcases Il (B:=B) (s:=y-257) (a:=a1) omg ha1 with⟨e,hn⟩|⟨n,a2,hn,n0,n1,n2,n3⟩
    · rw[rI hs omg hn] at h;cases h
    rcases Es (B:=B) (a:=a2) e2 z2 with⟨e,hf⟩|⟨f,a3,hf,f0,f1,f2,f3⟩
    · rw[o0 hs omg hn hf] at h;cases h
    by_cases hfo:f≤s.out.length
    · rw[ue hs omg hn hf omg] at h;cases h
      refine⟨⟨f3,q2,q3,q4,q5,q6,by show((n:Int)).toNat<400;omega,fun _=>by show 1≤((f:Int)).toNat∧((f:Int)).toNat≤s.out.length;omega⟩,?_,Nat.le_refl _,Nat.le_succ _⟩
      refine Nat.lt_of_le_of_lt (rk B _) ?_
      rw[hm]
      show(8*B.length-a3)*1000+((n:Int)).toNat+1<_
      omega
    · rw[ug hs omg hn hf omg] at h;cases h
inductive Lp (B:List Int) (mo:Int) (w:Nat) (n:Int):St→Except Int St→Prop
  |stop {s:St}:(s.ended=true∨n≤(s.out.length:Int)-w)→Lp B mo w n s (.ok s)
  |step {s s':St} {o:Except Int St}:s.ended=false→(s.out.length:Int)-w<n→one B mo s=.ok s'→Lp B mo w n s' o→Lp B mo w n s o
  |fail {s:St} {e:Int}:s.ended=false→(s.out.length:Int)-w<n→one B mo s=.error e→Lp B mo w n s (.error e)
def Yf{B:List Int}{mo:Int}(hB:aq B)(w:Nat)(n:Int):∀(k:Nat) {s:St},mu B s≤k→Ok B mo s→∃o,Lp B mo w n s o:=by
  intro k
  induction k with
  |zero=>
    intro s hk hok
    by_cases h1:s.ended=true
    · exact⟨_,.stop (.inl h1)⟩
    by_cases h2:n≤(s.out.length:Int)-w
    · exact⟨_,.stop (.inr h2)⟩
    rcases eO (one B mo s) with⟨e,h⟩|⟨s2,h⟩
    · exact⟨_,.fail (by simpa using h1) omg h⟩
    · have:=(dX hB hok h).less;omega
  |succ k ih=>
    intro s hk hok
    by_cases h1:s.ended=true
    · exact⟨_,.stop (.inl h1)⟩
    by_cases h2:n≤(s.out.length:Int)-w
    · exact⟨_,.stop (.inr h2)⟩
    rcases eO (one B mo s) with⟨e,h⟩|⟨s2,h⟩
    · exact⟨_,.fail (by simpa using h1) omg h⟩
    · have hg:=dX hB hok h
      have:=hg.less
      obtain⟨o,ho⟩:=ih (show mu B s2≤k by omega) hg.ok
      exact⟨o,.step (by simpa using h1) omg h ho⟩
def Ph{B:List Int}{mo:Int}(hB:aq B):∀(k:Nat) {s:St},mu B s≤k→Ok B mo s→∃o,iZ B mo s o:=by
  intro k
  induction k with
  |zero=>
    intro s hk hok
    by_cases h1:s.ended=true
    · exact⟨_,.done h1⟩
    rcases eO (one B mo s) with⟨e,h⟩|⟨s2,h⟩
    · exact⟨_,.fail (by simpa using h1) h⟩
    · have:=(dX hB hok h).less;omega
  |succ k ih=>
    intro s hk hok
    by_cases h1:s.ended=true
    · exact⟨_,.done h1⟩
    rcases eO (one B mo s) with⟨e,h⟩|⟨s2,h⟩
    · exact⟨_,.fail (by simpa using h1) h⟩
    · have hg:=dX hB hok h
      have:=hg.less
      obtain⟨o,ho⟩:=ih (show mu B s2≤k by omega) hg.ok
      exact⟨o,.step (by simpa using h1) h ho⟩
def PX{B:List Int}{mo:Int}{w:Nat}{n:Int}{s:St}{o:Except Int St}(hB:aq B)(h:Lp B mo w n s o):Ok B mo s→(∀s2,o=.ok s2→Ok B mo s2∧mu B s2≤mu B s∧fS B mo s s2∧(s2.ended=true∨n≤(s2.out.length:Int)-w)∧(s.ended=false→(s.out.length:Int)-w<n→mu B s2<mu B s)∧s.out.length≤s2.out.length)∧(∀e,o=.error e→iZ B mo s (.error e)):=by
  induction h with
  |stop h=>intro hok;exact⟨fun s2 e=>by cases e;exact⟨hok,Nat.le_refl _,.refl _ _ _,h,fun h1 h2=>by rcases h with h|h;(rw[h1] at h;cases h);omega,Nat.le_refl _⟩,fun e h=>by cases h⟩
  |step h1 h2 h3 h4 ih=>
    intro hok
    have hg:=dX hB hok h3
    have hl:=hg.less
    have hle:=hg.le
    obtain⟨k1,k2⟩:=ih hg.ok
    refine⟨fun s2 e=>?_,fun e h=>.step h1 h3 (k2 e h)⟩
    obtain⟨m1,m2,m3,m4,m5,m6⟩:=k1 s2 e
    exact⟨m1,omg,(fS.one h1 h3).trans m3,m4,fun _ _=>by omega,omg⟩
  |fail h1 h2 h3=>intro hok;exact⟨fun s2 e=>(by cases e),fun e h=>by cases h;exact .fail h1 h3⟩
abbrev Jt:=Except Int St
def k9:Jt→Bool
  |.ok s=>s.ended
  |.error _=>true
def sK:Jt→List Int
  |.ok s=>if s.ended=true then s.out else []
  |.error _=>[]
def FT:Jt→Int
  |.ok _=>0
  |.error e=>e
def ur:Jt→Int
  |.ok s=>if s.ended=true then((s.at_+7)/8:Nat) else 0
  |.error _=>0
def yW (B:List Int) (mo:Int):Jt→Prop
  |.ok s=>Ok B mo s
  |.error e=>e≠0
def FH (B:List Int) (mo n:Int) (r r':Jt):Prop:=((n<1∨k9 r=true)∧r'=r)∨(1≤n∧∃s,r=.ok s∧s.ended=false∧Lp B mo s.out.length n s r')
def GD (B:List Int) (mo:Int) (s0:St):Jt→Prop
  |.ok s=>fS B mo s0 s
  |.error e=>iZ B mo s0 (.error e)
def Ou:Oc→List Int×Int×Int
  |.ok (x,n)=>(x,(n:Int),0)
  |.error e=>([],0,e)
def mN{B:List Int}{mo:Int}(h:0≤mo):Ok B mo start:=⟨Nat.zero_le _,by show((0:Nat):Int)≤mo;omega,fun x hx=>(by cases hx),.inl rfl,by decide,fun h=>absurd h dec,by decide,fun h=>absurd h dec⟩
end Go.ab
namespace Go.ab
section
variable {B:List Int} {mo n e:Int} {w:Nat} {s s2:St} {o:Except Int St}
def ND(h:Lp B mo w n s o)(k:s.ended=true∨n≤(s.out.length:Int)-w):o=.ok s:=by
  cases h with
  |stop _=>rfl
  |step h1 h2=>exfalso;rcases k with k|k;(rw[h1] at k;cases k);omega
  |fail h1 h2=>exfalso;rcases k with k|k;(rw[h1] at k;cases k);omega
def XX(h:Lp B mo w n s o)(k1:s.ended=false)(k2:(s.out.length:Int)-w<n)(p:one B mo s=.ok s2):Lp B mo w n s2 o:=by
  cases h with
  |stop h=>exfalso;rcases h with k|k;(rw[k1] at k;cases k);omega
  |step _ _ h3 h4=>rw[h3] at p;cases p;exact h4
  |fail _ _ h3=>rw[h3] at p;cases p
def Yo(h:Lp B mo w n s o)(k1:s.ended=false)(k2:(s.out.length:Int)-w<n)(p:one B mo s=.error e):o=.error e:=by
  cases h with
  |stop h=>exfalso;rcases h with k|k;(rw[k1] at k;cases k);omega
  |step _ _ h3 h4=>rw[h3] at p;cases p
  |fail _ _ h3=>rw[h3] at p;cases p;rfl
end
end Go.ab
namespace Go.ab
open Go.ag Go.ae
section
variable {B:List Int} {mo e:Int}
def pY{ls:List Int}{a:Nat}(h:sym ls B a=.error e):e≠0:=by
  unfold sym at h;split at h<;>cases h<;>decide
def Wl{l:List Int}{s:Int}{a:Nat}(h:rep B s l a=.error e):e≠0:=by
  unfold rep at h
  split at h
  · cases h
  split at h
  · cases h;decide
  split at h
  · cases h;decide
  · cases h
def Pa{c:List Int}{tot:Nat}:∀ {f:Nat} {l:List Int} {a:Nat},fg B c tot f l a=.error e→e≠0:=by
  intro f
  induction f with
  |zero=>intro l a h;cases h
  |succ f ih=>
    intro l a h
    simp only[fg] at h
    split at h
    · rcases FW B c l a with⟨e2,hs⟩|⟨sy,x2,e2,hs,hr⟩|⟨sy,x2,v,n,x3,hs,hr⟩
      · rw[rJ hs] at h;cases h;exact pY hs
      · rw[kD hs hr] at h;cases h;exact Wl hr
      · rw[hJ hs hr] at h
        simp only at h
        split at h
        · exact ih h
        · cases h;decide
    · cases h
def xR{a:Nat}(h:told B a=.error e):e≠0:=by
  unfold told at h
  split at h
  · cases h;decide
  split at h
  · cases h;decide
  split at h
  · cases h;decide
  split at h
  · cases h;decide
  split at h
  · rename_i e2 h2;cases h;exact Pa h2
  · split at h
    · cases h;decide
    · cases h
def AK{s:St}{y:Int}(h:eK mo s y=.error e):e≠0:=by
  unfold eK at h;split at h<;>cases h;decide
def W4{s:Int}{a:Nat}(h:eL B s a=.error e):e≠0:=by
  unfold eL at h
  split at h
  · cases h;decide
  split at h
  · cases h;decide
  · cases h
def O4{ds:List Int}{a:Nat}(h:dQ B ds a=.error e):e≠0:=by
  unfold dQ at h
  split at h
  · rename_i e2 h2;cases h;exact pY h2
  · split at h
    · cases h;decide
    split at h
    · cases h;decide
    · cases h
def La{s:St}(h:dk B s=.error e):e≠0:=by
  unfold dk at h
  split at h
  · cases h;decide
  split at h
  · split at h
    · cases h;decide
    split at h
    · cases h
    · cases h;decide
  split at h
  · cases h
  split at h
  · split at h
    · rename_i e2 h2;cases h;exact xR h2
    · cases h
  · cases h;decide
def Kk{s:St}(h:eW B mo s=.error e):e≠0:=by
  rcases eO (sym s.lits B s.at_) with⟨e2,hs⟩|⟨⟨y,a⟩,hs⟩
  · rw[tG hs] at h;cases h;exact pY hs
  by_cases h1:y<256
  · rw[mc hs h1] at h;exact AK h
  by_cases h2:y=256
  · rw[ou hs h2] at h;cases h
  rcases eO (eL B (y-257) a) with⟨e2,hn⟩|⟨⟨n,a2⟩,hn⟩
  · rw[rI hs omg hn] at h;cases h;exact W4 hn
  rcases eO (dQ B s.du a2) with⟨e2,hf⟩|⟨⟨f,a3⟩,hf⟩
  · rw[o0 hs omg hn hf] at h;cases h;exact O4 hf
  by_cases h3:f≤s.out.length
  · rw[ue hs omg hn hf h3] at h;cases h
  · rw[ug hs omg hn hf h3] at h;cases h;decide
def IB{s:St}(h:one B mo s=.error e):e≠0:=by
  unfold one at h
  split at h
  · exact AK h
  split at h
  · exact La h
  split at h
  · exact Kk h
  split at h
  · cases h
  split at h
  · cases h;decide
  · exact AK h
def L5{s:St}{w:Nat}{n:Int}{o:Jt}(h:Lp B mo w n s o):o=.error e→e≠0:=by
  induction h with
  |stop _=>intro h;cases h
  |step _ _ _ _ ih=>exact ih
  |fail _ _ h=>intro q;cases q;exact IB h
def Ed{s:St}{o:Oc}(h:iZ B mo s o):o=.error e→e≠0:=by
  induction h with
  |done _=>intro h;cases h
  |step _ _ _ ih=>exact ih
  |fail _ h=>intro q;cases q;exact IB h
end
def HJ (B:List Int):Jt→Nat
  |.ok s=>mu B s+1
  |.error _=>0
def FG:Jt→Nat
  |.ok s=>s.out.length
  |.error _=>0
def LC{B:List Int}{mo:Int}{r:Jt}(hB:aq B)(hok:yW B mo r)(n:Int):∃r',FH B mo n r r':=by
  by_cases hn:n<1
  · exact⟨r,.inl ⟨.inl hn,rfl⟩⟩
  cases r with
  |error e=>exact⟨_,.inl ⟨.inr rfl,rfl⟩⟩
  |ok s=>
    cases he:s.ended with
    |true=>exact⟨_,.inl ⟨.inr he,rfl⟩⟩
    |false=>
      obtain⟨o,ho⟩:=Yf hB s.out.length n _ (Nat.le_refl _) hok
      exact⟨o,.inr ⟨omg,s,rfl,he,ho⟩⟩
structure Xt (B:List Int) (mo:Int) (s0:St) (n:Int) (r r':Jt):Prop where
  ok:yW B mo r'
  at_:GD B mo s0 r'
  le:HJ B r'≤HJ B r
  less:k9 r=false→1≤n→HJ B r'<HJ B r
  out:k9 r=false→1≤n→k9 r'=true∨FG r+1≤FG r'
  stay:(n<1∨k9 r=true)→r'=r
def Fj{B:List Int}{mo n:Int}{s0:St}{r r':Jt}(hB:aq B)(hok:yW B mo r)(hat:GD B mo s0 r)(h:FH B mo n r r'):Xt B mo s0 n r r':=by
  rcases h with⟨hx,rfl⟩|⟨hn,s,rfl,he,hl⟩
  · refine⟨hok,hat,Nat.le_refl _,fun h1 h2=>?_,fun h1 h2=>?_,fun _=>rfl⟩<;>(exfalso;rcases hx with hx|hx;omega;rw[h1] at hx;cases hx)
  · obtain⟨k1,k2⟩:=PX hB hl hok
    cases r' with
    |ok s2=>
      obtain⟨m1,m2,m3,m4,m5,m6⟩:=k1 s2 rfl
      have:=m5 he omg
      refine⟨m1,hat.trans m3,by show mu B s2+1≤mu B s+1;omega,fun _ _=>by show mu B s2+1<mu B s+1;omega,fun _ _=>?_,fun hx=>?_⟩
      · rcases m4 with m4|m4
        · exact .inl m4
        · right;show s.out.length+1≤s2.out.length;omega
      · exfalso;rcases hx with hx|hx
        · omega
        · rw[show k9 (.ok s)=s.ended from rfl,he] at hx;cases hx
    |error e=>
      refine⟨L5 hl rfl,hat _ (k2 e rfl),Nat.zero_le _,fun _ _=>Nat.succ_pos _,fun _ _=>.inl rfl,fun hx=>?_⟩
      exfalso;rcases hx with hx|hx
      · omega
      · rw[show k9 (.ok s)=s.ended from rfl,he] at hx;cases hx
def iU (B:List Int) (mo:Int) (q:List Int×Int×Int):Prop:=(mo<0∧q=([],0,1))∨(0≤mo∧∃o,iZ B mo start o∧q=Ou o)
def iU.oy{B:List Int}{mo:Int}{q q':List Int×Int×Int}(h:iU B mo q)(h':iU B mo q'):q=q':=by
  rcases h with⟨a,rfl⟩|⟨a,o,r,rfl⟩<;>rcases h' with⟨a',rfl⟩|⟨a',o',r',rfl⟩
  · rfl
  · omega
  · omega
  · rw[r.oy r']
def iU.ex{B:List Int}(hB:aq B)(mo:Int):∃q,iU B mo q:=by
  by_cases h:mo<0
  · exact⟨_,.inl ⟨h,rfl⟩⟩
  · obtain⟨o,ho⟩:=Ph hB _ (Nat.le_refl _) (mN (B:=B) (mo:=mo) omg)
    exact⟨_,.inr ⟨omg,o,ho,rfl⟩⟩
def O9{B:List Int}{mo:Int}{r:Jt}(hm:0≤mo)(h:GD B mo start r)(he:k9 r=true):iU B mo (sK r,ur r,FT r):=by
  refine .inr ⟨hm,?_⟩
  cases r with
  |ok s=>exact⟨.ok (s.out,(s.at_+7)/8),h _ (.done he),by simp only[sK,ur,FT,Ou];rw[if_pos (show s.ended=true from he),if_pos (show s.ended=true from he)]⟩
  |error e=>exact⟨.error e,h,rfl⟩
def IY{B:List Int}{mo:Int}(hB:aq B){s:St}{o:Oc}(h:iZ B mo s o):Ok B mo s→∀x n,o=.ok (x,n)→(x.length:Int)≤mo∧n≤B.length∧aq x:=by
  induction h with
  |done h=>intro hok x n e;cases e;exact⟨hok.room,by have:=hok.at_;omega,hok.wH⟩
  |step h1 h2 h3 ih=>intro hok;exact ih (dX hB hok h2).ok
  |fail _ _=>intro _ x n e;cases e
end Go.ab
namespace Go.ab
open Go.ag Go.ae
def aeV (mo:Int):Jt:=if mo<0 then .error 1 else .ok start
structure Way (B:List Int) (mo:Int) (r:Jt):Prop where
  ok:yW B mo r
  at_:(0≤mo∧GD B mo start r)∨(mo<0∧r=.error 1)
structure aeY (B:List Int) (mo n:Int) (r r':Jt):Prop where
  way:Way B mo r'
  out:k9 r=false→1≤n→k9 r'=true∨FG r+1≤FG r'
  stay:(n<1∨k9 r=true)→r'=r
end Go.ab
namespace Go.ab
open Go.ag Go.ae
end Go.ab
namespace Go.ab
open Go.ag Go.ae
def rE:List Int:=[3,4,5,6,7,8,9,10,11,13,15,17,19,23,27,31,35,43,51,59,67,83,99,115,131,163,195,227,258]
def rY:List Int:=[0,0,0,0,0,0,0,0,1,1,1,1,2,2,2,2,3,3,3,3,4,4,4,4,5,5,5,5,0]
def P6{s:Int}(h:0≤s∧s<29):rE.getD s.toNat 0=k7 s∧rY.getD s.toNat 0=(gH s:Int):=by
 have:∀k:Nat,k<29→rE.getD k 0=k7 k∧rY.getD k 0=(gH k:Int):=by decide
 have h2:=this s.toNat omg
 rw[Int.toNat_of_nonneg h.1] at h2
 exact h2
def Js{s:Int}(h:0≤s∧s<29):3≤k7 s∧k7 s≤258∧gH s≤5:=by
 have:∀k:Nat,k<29→3≤k7 k∧k7 k≤258∧gH k≤5:=by decide
 have h2:=this s.toNat omg
 rw[Int.toNat_of_nonneg h.1] at h2
 exact h2
def JA{s:Int}(h:0≤s∧s<30):1≤nZ s∧nZ s<40000∧ia s≤13:=by
 have:∀k:Nat,k<30→1≤nZ k∧nZ k<40000∧ia k≤13:=by decide
 have h2:=this s.toNat omg
 rw[Int.toNat_of_nonneg h.1] at h2
 exact h2
structure Dn (B:List Int) (mo:Int) (S S':St):Prop where
 xF:fS B mo S S'
 ok:Ok B mo S'
 kind:S'.kind= -1
 ax:S'.ax=0
 ended:S'.ended=S'.last
 last:S'.last=S.last
structure In (B:List Int) (mo:Int) (S s:St):Prop where
 xF:fS B mo S s
 ok:Ok B mo s
 kind:s.kind=S.kind
 ax:s.ax=0
 ended:s.ended=false
 last:s.last=S.last
 lits:s.lits=S.lits
 du:s.du=S.du
section
variable {B:List Int} {mo e:Int} {S s s2:St}
end
end Go.ab
namespace Go.ab
open Go.ag Go.ae
inductive Bl (B:List Int) (mo:Int):St→Except Int St→Prop
 |done {s:St}:s.kind= -1→Bl B mo s (.ok s)
 |step {s s':St} {o:Except Int St}:¬s.kind= -1→one B mo s=.ok s'→Bl B mo s' o→Bl B mo s o
 |fail {s:St} {e:Int}:¬s.kind= -1→one B mo s=.error e→Bl B mo s (.error e)
section
variable {B:List Int} {mo e:Int} {s s2:St} {o:Except Int St}
def Bl.end_(h:Bl B mo s o)(k:s.kind= -1):o=.ok s:=by
 cases h with
 |done _=>rfl
 |step h _ _=>exact(h k).elim
 |fail h _=>exact(h k).elim
def Bl.next(h:Bl B mo s o)(k:¬s.kind= -1)(p:one B mo s=.ok s2):Bl B mo s2 o:=by
 cases h with
 |done q=>exact(k q).elim
 |step _ h2 h3=>rw[h2] at p;cases p;exact h3
 |fail _ h2=>rw[h2] at p;cases p
def Bl.err(h:Bl B mo s o)(k:¬s.kind= -1)(p:one B mo s=.error e):o=.error e:=by
 cases h with
 |done q=>exact(k q).elim
 |step _ h2 h3=>rw[h2] at p;cases p
 |fail _ h2=>rw[h2] at p;cases p;rfl
def LN(k:¬s.kind= -1)(he:s.ended=false)(p:one B mo s=.ok s2):s2.last=s.last∧((¬s2.kind= -1∧s2.ended=false)∨(s2.kind= -1∧s2.ax=0∧s2.ended=s2.last)):=by
 by_cases hc:0<s.ax
 ·have h:eK mo {s with ax:=s.ax-1} (s.out.getD (s.out.length-s.cm) 0)=.ok s2:=by unfold one at p;rw[if_pos hc] at p;exact p
  obtain⟨_,rfl⟩:=nj h
  exact⟨rfl,.inl ⟨k,he⟩⟩
 by_cases k0:s.kind=0
 ·by_cases hl:s.left=0
  ·rw[qF hc k k0 hl] at p;cases p;exact⟨rfl,.inr ⟨rfl,by show s.ax=0;omega,rfl⟩⟩
  ·by_cases hx:8*B.length<s.at_+8
   ·rw[sC hc k k0 hl hx] at p;cases p
   ·rw[pS hc k k0 hl omg] at p
    obtain⟨_,rfl⟩:=nj p
    exact⟨rfl,.inl ⟨k,he⟩⟩
 ·rw[jF hc k k0] at p
  rcases eO (sym s.lits B s.at_) with⟨e,hs⟩|⟨⟨y,a1⟩,hs⟩
  ·rw[tG hs] at p;cases p
  by_cases hy:y<256
  ·rw[mc hs hy] at p
   obtain⟨_,rfl⟩:=nj p
   exact⟨rfl,.inl ⟨k,he⟩⟩
  by_cases hy2:y=256
  ·rw[ou hs hy2] at p;cases p;exact⟨rfl,.inr ⟨rfl,by show s.ax=0;omega,rfl⟩⟩
  rcases eO (eL B (y-257) a1) with⟨e,hn⟩|⟨⟨n,a2⟩,hn⟩
  ·rw[rI hs omg hn] at p;cases p
  rcases eO (dQ B s.du a2) with⟨e,hf⟩|⟨⟨f,a3⟩,hf⟩
  ·rw[o0 hs omg hn hf] at p;cases p
  by_cases hfo:f≤s.out.length
  ·rw[ue hs omg hn hf hfo] at p;cases p;exact⟨rfl,.inl ⟨k,he⟩⟩
  ·rw[ug hs omg hn hf hfo] at p;cases p
def Ca{s:St}(hs:(¬s.kind= -1∧s.ended=false)∨(s.kind= -1∧s.ax=0∧s.ended=s.last))(k:¬s.kind= -1):s.ended=false:=by
 rcases hs with⟨_,h⟩|⟨h,_⟩
 ·exact h
 ·exact(k h).elim
structure Left (B:List Int) (mo:Int) (s s2:St):Prop where
 xF:fS B mo s s2
 ok:Ok B mo s2
 kind:s2.kind= -1
 ax:s2.ax=0
 ended:s2.ended=s2.last
 last:s2.last=s.last
 less:mu B s2≤mu B s
def Oy(hB:aq B)(h:Bl B mo s o):Ok B mo s→((¬s.kind= -1∧s.ended=false)∨(s.kind= -1∧s.ax=0∧s.ended=s.last))→(∀s2,o=.ok s2→Left B mo s s2)∧(∀e,o=.error e→iZ B mo s (.error e)):=by
 induction h with
 |done k=>intro hok hs;exact⟨fun s2 e=>by
   cases e
   rcases hs with⟨h,_⟩|⟨_,h2,h3⟩
   ·exact(h k).elim
   ·exact⟨.refl _ _ _,hok,k,h2,h3,rfl,Nat.le_refl _⟩,fun e h=>by cases h⟩
 |step k p h ih=>
  intro hok hs
  have he:=Ca hs k
  have hg:=dX hB hok p
  have hk:=LN k he p
  obtain⟨h1,h2⟩:=ih hg.ok hk.2
  refine⟨fun s2 e=>?_,fun e q=>.step he p (h2 e q)⟩
  have hl:=h1 s2 e
  have:=hg.less
  exact⟨(fS.one he p).trans hl.xF,hl.ok,hl.kind,hl.ax,hl.ended,hl.last.trans hk.1,Nat.le_trans hl.less (Nat.le_of_lt this)⟩
 |fail k p=>
  intro hok hs
  have he:=Ca hs k
  exact⟨fun s2 e=>(by cases e),fun e q=>by cases q;exact .fail he p⟩
def Yu(hB:aq B):∀(k:Nat) {s:St},mu B s≤k→Ok B mo s→∃o,Bl B mo s o:=by
 intro k
 induction k with
 |zero=>
  intro s hk hok
  by_cases h1:s.kind= -1
  ·exact⟨_,.done h1⟩
  rcases eO (one B mo s) with⟨e,h⟩|⟨s2,h⟩
  ·exact⟨_,.fail h1 h⟩
  ·have:=(dX hB hok h).less;omega
 |succ k ih=>
  intro s hk hok
  by_cases h1:s.kind= -1
  ·exact⟨_,.done h1⟩
  rcases eO (one B mo s) with⟨e,h⟩|⟨s2,h⟩
  ·exact⟨_,.fail h1 h⟩
  ·have hg:=dX hB hok h
   have:=hg.less
   obtain⟨o,ho⟩:=ih (show mu B s2≤k by omega) hg.ok
   exact⟨o,.step h1 h ho⟩
end
def BO (B:List Int) (mo:Int) (S:St) (o:Except Int St):Prop:=(∃e,dk B S=.error e∧o=.error e)∨(∃S1,dk B S=.ok S1∧Bl B mo S1 o)
section
variable {B:List Int} {mo e:Int} {S S1:St} {o:Except Int St}
def BO.err(h:BO B mo S o)(k:dk B S=.error e):o=.error e:=by
 rcases h with⟨e',h1,h2⟩|⟨S',h1,_⟩
 ·rw[h1] at k;cases k;exact h2
 ·rw[h1] at k;cases k
def BO.go(h:BO B mo S o)(k:dk B S=.ok S1):Bl B mo S1 o:=by
 rcases h with⟨e',h1,h2⟩|⟨S',h1,h2⟩
 ·rw[h1] at k;cases k
 ·rw[h1] at k;cases k;exact h2
def EV(k:S.kind= -1)(h:dk B S=.ok S1):S1.last=decide (aG B S.at_ 1=1)∧¬S1.kind= -1∧S1.ended=S.ended∧S1.ax=S.ax:=by
 unfold dk at h
 split at h
 ·cases h
 split at h
 ·split at h
  ·cases h
  split at h
  ·cases h;exact⟨rfl,(fun h=>absurd (show(0:Int)= -1 from h) dec),rfl,rfl⟩
  ·cases h
 split at h
 ·cases h;exact⟨rfl,(fun h=>absurd (show(1:Int)= -1 from h) dec),rfl,rfl⟩
 split at h
 ·split at h
  ·cases h
  ·cases h;exact⟨rfl,(fun h=>absurd (show(2:Int)= -1 from h) dec),rfl,rfl⟩
 ·cases h
def kV(hB:aq B)(hok:Ok B mo S)(k:S.kind= -1)(c:S.ax=0)(he:S.ended=false)(h:BO B mo S o):(∀s2,o=.ok s2→fS B mo S s2∧Ok B mo s2∧s2.kind= -1∧s2.ax=0∧s2.ended=decide (aG B S.at_ 1=1)∧mu B s2<mu B S)∧(∀e,o=.error e→iZ B mo S (.error e)):=by
 have hone:=kS (B:=B) (mo:=mo) (s:=S) omg k
 rcases h with⟨e',h1,h2⟩|⟨S',h1,h2⟩
 ·refine⟨fun s2 q=>(by rw[h2] at q;cases q),fun e q=>?_⟩
  rw[h2] at q;cases q
  exact .fail he (hone.trans h1)
 ·have hp:=hone.trans h1
  have hg:=dX hB hok hp
  obtain⟨b1,b2,b3,b4⟩:=EV k h1
  obtain⟨g1,g2⟩:=Oy hB h2 hg.ok (.inl ⟨b2,b3.trans he⟩)
  refine⟨fun s2 q=>?_,fun e q=>.step he hp (g2 e q)⟩
  have hl:=g1 s2 q
  exact⟨(fS.one he hp).trans hl.xF,hl.ok,hl.kind,hl.ax,by rw[hl.ended,hl.last,b1],Nat.lt_of_le_of_lt hl.less hg.less⟩
def X0(hB:aq B)(hok:Ok B mo S)(k:S.kind= -1)(c:S.ax=0):∃o,BO B mo S o:=by
 rcases eO (dk B S) with⟨e,h⟩|⟨S1,h⟩
 ·exact⟨_,.inl ⟨e,h,rfl⟩⟩
 ·have hg:=dX hB hok ((kS omg k).trans h)
  obtain⟨o,ho⟩:=Yu hB _ (Nat.le_refl _) hg.ok
  exact⟨o,.inr ⟨S1,h,ho⟩⟩
end
section
variable {B ds:List Int} {s d:Int} {a a3 n:Nat}
def OF(h:s<29)(hx:8*B.length<a+gH s):eL B s a=.error 2:=by unfold eL;rw[if_neg omg];exact if_pos hx
def CG(h:s<29)(hx:a+gH s≤8*B.length)(hn:k7 s+aG B a (gH s)=(n:Int)):eL B s a=.ok ((n:Int),a+gH s):=by unfold eL;rw[if_neg omg,hn];exact if_neg omg
def LK(hs:sym ds B a=.ok (d,a3))(h:d<30)(hx:8*B.length<a3+ia d):dQ B ds a=.error 2:=by unfold dQ;rw[hs];simp only;rw[if_neg omg];exact if_pos hx
def Lm(hs:sym ds B a=.ok (d,a3))(h:d<30)(hx:a3+ia d≤8*B.length)(hn:nZ d+aG B a3 (ia d)=(n:Int)):dQ B ds a=.ok ((n:Int),a3+ia d):=by unfold dQ;rw[hs];simp only;rw[if_neg omg,hn];exact if_neg omg
end
end Go.ab
namespace Go.ab
def qS:∀k,k<288→dO.take k++[if k<144 then 8 else if k<256 then 9 else if k<280 then 7 else 8]=dO.take (k+1):=by decide+kernel
def Um{k:Nat}(h:k<144):dO.take k++[8]=dO.take (k+1):=by have:=qS k omg;rw[if_pos h] at this;exact this
def Ua{k:Nat}(h:144≤k∧k<256):dO.take k++[9]=dO.take (k+1):=by have:=qS k omg;rw[if_neg omg,if_pos h.2] at this;exact this
def Tm{k:Nat}(h:256≤k∧k<280):dO.take k++[7]=dO.take (k+1):=by have:=qS k omg;rw[if_neg omg,if_neg omg,if_pos h.2] at this;exact this
def PZ{k:Nat}(h:280≤k∧k<288):dO.take k++[8]=dO.take (k+1):=by have:=qS k omg;rw[if_neg omg,if_neg omg,if_neg omg] at this;exact this
end Go.ab
namespace Go.ab
def wP{s:Int}(h:s=16):dE s=2:=if_pos h
def IS{s:Int}(h:s=17):dE s=3:=by subst h;rfl
def JF{s:Int}(h:s=18):dE s=7:=by subst h;rfl
def qp{s:Int}(h:¬s=18):iu s=3:=if_neg h
def Ib{s:Int}(h:s=18):iu s=11:=if_pos h
def wq{s:Int}{l:List Int}(h:s=16):ib s l=l.getD (l.length-1) 0:=if_pos h
def zI{s:Int}{l:List Int}(h:¬s=16):ib s l=0:=if_neg h
def pq{s:Int}:dE s≤7∧3≤iu s∧iu s≤11:=by
 unfold dE iu
 split<;>split<;>(try split)<;>omega
def sy4{s:Int}(l:List Int)(h:16≤s∧s<19):(s=16∧l.length=0)∨(s=16∧0<l.length)∨s=17∨s=18:=omg
def oe{B l:List Int}{s:Int}{a n:Nat}(h:¬s<16)(hx:a+dE s≤8*B.length)(hl:¬(s=16∧l.length=0))(hn:iu s+ag.aG B a (dE s)=(n:Int)):rep B s l a=.ok (ib s l,(n:Int),a+dE s):=by
 rw[vK h omg (fun q=>hl ⟨q.1,by rw[q.2];rfl⟩),hn]
end Go.ab
namespace Go.ab
open Go.ag
def F7{B:List Int}{mo:Int}{S:St}(hB:aq B)(hok:Ok B mo S)(k:S.kind= -1)(c:S.ax=0):(∃e,BO B mo S (.error e))∨∃S2,BO B mo S (.ok S2):=by
 obtain⟨o,h⟩:=X0 hB hok k c
 cases o with
 |error e=>exact .inl ⟨e,h⟩
 |ok s=>exact .inr ⟨s,h⟩
def Xg{B:List Int}{mo e:Int}{S:St}(hB:aq B)(hok:Ok B mo S)(k:S.kind= -1)(c:S.ax=0)(he:S.ended=false)(h:BO B mo S (.error e)):e≠0:=Ed ((kV hB hok k c he h).2 e rfl) rfl
end Go.ab
namespace Go.ab
open Go.ag Go.ae
def run (B:List Int) (mo:Int):Nat→St→Option Oc
  |0,_=>none
  |f+1,s=>if s.ended=true then some (.ok (s.out,(s.at_+7)/8)) else match one B mo s with
    |.error e=>some (.error e)
    |.ok s'=>run B mo f s'
def aeZ (B:List Int) (mo:Int) (f:Nat) (q:List Int×Int×Int):Bool:=match run B mo f start with
  |some o=>decide (Ou o=q)
  |none=>false
end Go.ab
namespace Go.ab
end Go.ab
namespace Go.ab
open Go.ag Go.ae
section
variable {B:List Int} {mo mo' y:Int} {s s2:St}
def BI(h:eK mo s y=.ok s2):((s2.out.length:Int)≤mo'→eK mo' s y=.ok s2)∧(mo'<s2.out.length→eK mo' s y=.error 6):=by
  obtain⟨k,rfl⟩:=nj h
  have hl:({s with out:=s.out++[y]}:St).out.length=s.out.length+1:=by simp
  rw[hl]
  exact⟨fun h=>mH omg,fun h=>lr omg⟩
def Lr(h:eW B mo s=.ok s2)(hs:(s.out.length:Int)≤mo'):((s2.out.length:Int)≤mo'→eW B mo' s=.ok s2)∧(mo'<s2.out.length→eW B mo' s=.error 6):=by
  rcases eO (sym s.lits B s.at_) with⟨e,h1⟩|⟨⟨y,a⟩,h1⟩
  · rw[tG h1] at h;cases h
  by_cases hy:y<256
  · rw[mc h1 hy] at h ⊢;exact BI h
  by_cases hy2:y=256
  · rw[ou h1 hy2] at h ⊢;cases h;exact⟨fun _=>rfl,fun k=>by simp only at k;omega⟩
  rcases eO (eL B (y-257) a) with⟨e,hn⟩|⟨⟨n,a2⟩,hn⟩
  · rw[rI h1 omg hn] at h;cases h
  rcases eO (dQ B s.du a2) with⟨e,hf⟩|⟨⟨f,a3⟩,hf⟩
  · rw[o0 h1 omg hn hf] at h;cases h
  by_cases hfo:f≤s.out.length
  · rw[ue h1 omg hn hf hfo] at h ⊢;cases h;exact⟨fun _=>rfl,fun k=>by simp only at k;omega⟩
  · rw[ug h1 omg hn hf hfo] at h;cases h
def Cf(h:one B mo s=.ok s2)(hs:(s.out.length:Int)≤mo'):((s2.out.length:Int)≤mo'→one B mo' s=.ok s2)∧(mo'<s2.out.length→one B mo' s=.error 6):=by
  by_cases hc:0<s.ax
  · unfold one at h ⊢;rw[if_pos hc] at h ⊢;exact BI h
  by_cases hk:s.kind= -1
  · rw[kS hc hk] at h ⊢
    refine⟨fun _=>h,fun k=>?_⟩
    exfalso
    have:s2.out=s.out:=by
      unfold dk at h
      split at h
      · cases h
      split at h
      · split at h
        · cases h
        split at h
        · cases h;rfl
        · cases h
      split at h
      · cases h;rfl
      split at h
      · split at h
        · cases h
        · cases h;rfl
      · cases h
    rw[this] at k;omega
  by_cases hk0:s.kind=0
  · by_cases hl:s.left=0
    · rw[qF hc hk hk0 hl] at h ⊢;cases h;exact⟨fun _=>rfl,fun k=>by simp only at k;omega⟩
    · by_cases hx:8*B.length<s.at_+8
      · rw[sC hc hk hk0 hl hx] at h;cases h
      · rw[pS hc hk hk0 hl omg] at h ⊢;exact BI h
  · rw[jF hc hk hk0] at h ⊢;exact Lr h hs
def DW{o:Oc}(hB:aq B)(h:iZ B mo s o):Ok B mo s→∀x n,o=.ok (x,n)→s.out.length≤x.length∧((x.length:Int)≤mo'→iZ B mo' s (.ok (x,n)))∧((s.out.length:Int)≤mo'→mo'<x.length→iZ B mo' s (.error 6)):=by
  induction h with
  |done h=>intro hok x n e;cases e;exact⟨Nat.le_refl _,fun _=>.done h,fun h1 h2=>by omega⟩
  |step h1 h2 h3 ih=>
    intro hok x n e
    have hg:=dX hB hok h2
    obtain⟨k1,k2,k3⟩:=ih hg.ok x n e
    have hle:=hg.le
    refine⟨omg,fun k=>.step h1 ((Cf h2 omg).1 omg) (k2 k),fun q1 q2=>?_⟩
    rename_i s' _
    by_cases hc:mo'<s'.out.length
    · exact .fail h1 ((Cf h2 q1).2 hc)
    · exact .step h1 ((Cf h2 q1).1 omg) (k3 omg q2)
  |fail _ _=>intro _ x n e;cases e
end
end Go.ab
namespace Go.ab
open Go.ag Go.ae
section
variable {B:List Int}
def jS(j i:Nat)(hi:i<8):iF B (8*j+i)=B.getD j 0/2^i%2:=by
 unfold iF
 rw[show(8*j+i)/8=j by omega,show(8*j+i)%8=i by omega]
def wZ(a m:Nat):∀n,aG B a (m+n)=aG B a m+aG B (a+m) n*2^m
 |0=>by simp[aG]
 |n+1=>by
  have:=wZ a m n
  show aG B a (m+n)+iF B (a+(m+n))*2^(m+n)=aG B a m+(aG B (a+m) n+iF B (a+m+n)*2^n)*2^m
  rw[this,Int.add_mul,Int.add_assoc,Nat.add_assoc a m n,Int.mul_assoc,←Int.pow_add,Nat.add_comm n m]
def Bn{j:Nat}(hb:0≤B.getD j 0∧B.getD j 0<256):aG B (8*j) 8=B.getD j 0:=by
 simp only[aG]
 rw[show 8*j+0=8*j+0 from rfl,jS j 0 omg,jS j 1 omg,jS j 2 omg,jS j 3 omg,jS j 4 omg,jS j 5 omg,jS j 6 omg,jS j 7 omg]
 generalize B.getD j 0=b at hb ⊢
 simp only[show(2:Int)^0=1 from rfl,show(2:Int)^1=2 from rfl,show(2:Int)^2=4 from rfl,show(2:Int)^3=8 from rfl,show(2:Int)^4=16 from rfl,show(2:Int)^5=32 from rfl,show(2:Int)^6=64 from rfl,show(2:Int)^7=128 from rfl]
 omega
def Dk{j:Nat}(hb:0≤B.getD j 0∧B.getD j 0<256)(hc:0≤B.getD (j+1) 0∧B.getD (j+1) 0<256):aG B (8*j) 16=B.getD j 0+256*B.getD (j+1) 0:=by
 rw[show(16:Nat)=8+8 from rfl,wZ,Bn hb,show 8*j+8=8*(j+1) by omega,Bn hc]
 omega
def JQ{mo:Int}(hB:aq B):∀(X:List Int) {s:St} {pos:Nat},s.kind=0→s.ax=0→s.ended=false→s.left=X.length→s.at_=8*pos→(∀i,i<X.length→B.getD (pos+i) 0=X.getD i 0)→pos+X.length≤B.length→(s.out.length:Int)+X.length≤mo→
  ∃s',fS B mo s s'∧s'.at_=8*(pos+X.length)∧s'.out=s.out++X∧s'.kind= -1∧s'.ax=0∧s'.ended=s.last:=by
 intro X
 induction X with
 |nil=>
  intro s pos hk hc he hl ha hx hp hm
  have h1:=qF (B:=B) (mo:=mo) (s:=s) omg omg hk hl
  exact⟨_,fS.one he h1,by simpa using ha,by simp,rfl,hc,rfl⟩
 |cons x X ih=>
  intro s pos hk hc he hl ha hx hp hm
  have hx0:B.getD pos 0=x:=by simpa using hx 0 (by simp)
  have hp2:pos+(X.length+1)≤B.length:=by simpa using hp
  have hl2:s.left=X.length+1:=by simpa using hl
  have hm2:(s.out.length:Int)+(X.length+1)≤mo:=by simpa using hm
  have h1:=BT (B:=B) (mo:=mo) (s:=s) omg omg hk omg omg omg
  rw[ha,Bn (hB.get pos),hx0] at h1
  obtain⟨s',g,a1,a2,a3,a4,a5⟩:=ih (s:= {s with at_:=8*pos+8,left:=s.left-1,out:=s.out++[x]}) (pos:=pos+1) hk hc he (by show s.left-1=X.length;omega) (by show 8*pos+8=8*(pos+1);omega) (fun i hi=>by
   have:=hx (i+1) (by simp;omega)
   rw[show pos+1+i=pos+(i+1) by omega,this];simp) omg (by show((s.out++[x]).length:Int)+X.length≤mo;simp;omega)
  exact⟨s',(fS.one he h1).trans g,by rw[a1];simp;omega,by rw[a2];simp,a3,a4,a5⟩
def gj (la:Int) (X:List Int):List Int:=[la,(X.length:Int)%256,(X.length:Int)/256,255-(X.length:Int)%256,255-(X.length:Int)/256]++X
def lG(la:Int)(X:List Int):(gj la X).length=5+X.length:=by simp[gj];omega
def zv{mo:Int}(hB:aq B){s:St}{pos:Nat}{la:Int}{X:List Int}(hla:la=0∨la=1)(hX:X.length≤65535)(hk:s.kind= -1)(hc:s.ax=0)(he:s.ended=false)(ha:s.at_=8*pos)(hx:∀i,i<(gj la X).length→B.getD (pos+i) 0=(gj la X).getD i 0)(hp:pos+(gj la X).length≤B.length)(hm:(s.out.length:Int)+X.length≤mo):
  ∃s',fS B mo s s'∧s'.at_=8*(pos+(gj la X).length)∧s'.out=s.out++X∧s'.kind= -1∧s'.ax=0∧s'.ended=decide (la=1):=by
 have hbl:=lG la X
 have b0:B.getD pos 0=la:=by simpa[gj] using hx 0 omg
 have b1:B.getD (pos+1) 0=(X.length:Int)%256:=by simpa[gj] using hx 1 omg
 have b2:B.getD (pos+2) 0=(X.length:Int)/256:=by simpa[gj] using hx 2 omg
 have b3:B.getD (pos+3) 0=255-(X.length:Int)%256:=by simpa[gj] using hx 3 omg
 have b4:B.getD (pos+4) 0=255-(X.length:Int)/256:=by simpa[gj] using hx 4 omg
 have e0:aG B s.at_ 1=la:=by
  rw[ha,vf,show 8*pos=8*pos+0 from rfl,jS pos 0 omg,b0]
  rcases hla with rfl|rfl<;>rfl
 have e1:aG B (s.at_+1) 2=0:=by
  rw[ha]
  simp only[aG]
  rw[show 8*pos+1+0=8*pos+1 from rfl,show 8*pos+1+1=8*pos+2 from rfl,jS pos 1 omg,jS pos 2 omg,b0]
  rcases hla with rfl|rfl<;>rfl
 have hal:cT (s.at_+3)=8*(pos+1):=by rw[w7,ha];omega
 have n1:aG B (cT (s.at_+3)) 16=(X.length:Int):=by rw[hal,Dk (hB.get _) (hB.get _),b1,show pos+1+1=pos+2 from rfl,b2];omega
 have n2:aG B (cT (s.at_+3)+16) 16=65535-(X.length:Int):=by rw[hal,show 8*(pos+1)+16=8*(pos+3) by omega,Dk (hB.get _) (hB.get _),b3,show pos+3+1=pos+4 from rfl,b4];omega
 have hb:=th (B:=B) (s:=s) omg e1 omg (by rw[n1,n2];omega)
 have h1:=(kS (B:=B) (mo:=mo) (s:=s) omg hk).trans hb
 rw[n1,e0,hal] at h1
 obtain⟨s',g,a1,a2,a3,a4,a5⟩:=JQ (mo:=mo) hB X (s:= {s with at_:=8*(pos+1)+32,kind:=0,left:=((X.length:Int)).toNat,last:=decide (la=1)}) (pos:=pos+5) rfl hc he (by show((X.length:Int)).toNat=X.length;omega) (by show 8*(pos+1)+32=8*(pos+5);omega) (fun i hi=>by
  have:=hx (5+i) omg
  rw[show pos+5+i=pos+(5+i) by omega,this];simp[gj,Nat.add_comm 5 i]) omg hm
 exact⟨s',(fS.one he h1).trans g,by rw[a1];omega,a2,a3,a4,a5⟩
def gg:List (List Int)→List Int
 |[]=>[]
 |[X]=>gj 1 X
 |X::Y::L=>gj 0 X++gg (Y::L)
def Bp(a b:List Int)(i:Nat)(h:i<a.length):(a++b).getD i 0=a.getD i 0:=by
 rw[List.getD_eq_getElem?_getD,List.getElem?_append_left h,←List.getD_eq_getElem?_getD]
def dN(a b:List Int)(i:Nat):(a++b).getD (a.length+i) 0=b.getD i 0:=by
 rw[List.getD_eq_getElem?_getD,List.getElem?_append_right omg,Nat.add_sub_cancel_left,←List.getD_eq_getElem?_getD]
def Lt{mo:Int}(hB:aq B):∀(L:List (List Int)) {s:St} {pos:Nat},L≠[]→(∀X∈L,X.length≤65535)→s.kind= -1→s.ax=0→s.ended=false→s.at_=8*pos→(∀i,i<(gg L).length→B.getD (pos+i) 0=(gg L).getD i 0)→pos+(gg L).length≤B.length→(s.out.length:Int)+L.flatten.length≤mo→
  ∃s',fS B mo s s'∧s'.at_=8*(pos+(gg L).length)∧s'.out=s.out++L.flatten∧s'.ended=true:=by
 intro L
 induction L with
 |nil=>intro s pos h;exact(h rfl).elim
 |cons X L ih=>
  intro s pos _ hL hk hc he ha hx hp hm
  cases L with
  |nil=>
   obtain⟨s',g,a1,a2,a3,a4,a5⟩:=zv (mo:=mo) hB (.inr rfl) (hL X (List.mem_cons_self ..)) hk hc he ha hx hp (by simpa using hm)
   exact⟨s',g,a1,by simpa using a2,a5⟩
  |cons Y L=>
   have hlen:(gg (X::Y::L)).length=(gj 0 X).length+(gg (Y::L)).length:=by simp[gg]
   have hfl:(X::Y::L).flatten.length=X.length+(Y::L).flatten.length:=by simp
   obtain⟨s',g,a1,a2,a3,a4,a5⟩:=zv (mo:=mo) hB (.inl rfl) (hL X (List.mem_cons_self ..)) hk hc he ha (fun i hi=>by rw[hx i omg];exact Bp _ _ _ hi) omg omg
   obtain⟨s2,g2,c1,c2,c3⟩:=ih (s:=s') (pos:=pos+(gj 0 X).length) (by simp) (fun Z hZ=>hL Z (List.mem_cons_of_mem _ hZ)) a3 a4 (by rw[a5];rfl) a1 (fun i hi=>by
    rw[show pos+(gj 0 X).length+i=pos+((gj 0 X).length+i) by omega,hx _ omg];exact dN _ _ _) omg (by rw[a2];simp only[List.length_append];omega)
   exact⟨s2,g.trans g2,by rw[c1,hlen];omega,by rw[c2,a2];simp,c3⟩
end
def zW{la:Int}{X:List Int}(hla:la=0∨la=1)(hX:X.length≤65535)(h:aq X):aq (gj la X):=by
 intro x hx
 unfold gj at hx
 rcases List.mem_append.1 hx with hx|hx
 ·simp only[List.mem_cons,List.not_mem_nil,or_false] at hx
  rcases hx with rfl|rfl|rfl|rfl|rfl<;>omega
 ·exact h x hx
def uW:∀(L:List (List Int)),(∀X∈L,X.length≤65535∧aq X)→aq (gg L)
 |[],_=>fun x hx=>by cases hx
 |[X],h=>zW (.inr rfl) (h X (List.mem_cons_self ..)).1 (h X (List.mem_cons_self ..)).2
 |X::Y::L,h=>fun x hx=>by
  rcases List.mem_append.1 hx with hx|hx
  ·exact zW (.inl rfl) (h X (List.mem_cons_self ..)).1 (h X (List.mem_cons_self ..)).2 x hx
  ·exact uW (Y::L) (fun Z hZ=>h Z (List.mem_cons_of_mem _ hZ)) x hx
def Kx{L:List (List Int)}(hne:L≠[])(hL:∀X∈L,X.length≤65535∧aq X){t:List Int}(ht:aq t):iU (gg L++t) L.flatten.length (L.flatten,((gg L).length:Int),0)∧∀mo:Int,0≤mo→mo<L.flatten.length→iU (gg L++t) mo ([],0,6):=by
 have hB:aq (gg L++t):=fun x hx=>by
  rcases List.mem_append.1 hx with hx|hx
  ·exact uW L hL x hx
  ·exact ht x hx
 obtain⟨s',g,a1,a2,a3⟩:=Lt (mo:=L.flatten.length) hB L (s:=start) (pos:=0) hne (fun X hX=>(hL X hX).1) rfl rfl rfl rfl (fun i hi=>by rw[Nat.zero_add];exact Bp _ _ _ hi) (by rw[List.length_append];omega) (by show((0:Nat):Int)+_≤_;omega)
 have hr:iZ (gg L++t) L.flatten.length start (.ok (L.flatten,(gg L).length)):=by
  have:=g _ (.done a3)
  rw[a2,a1,show(8*(0+(gg L).length)+7)/8=(gg L).length by omega,show start.out++L.flatten=L.flatten from rfl] at this
  exact this
 refine⟨.inr ⟨omg,_,hr,rfl⟩,fun mo h0 h1=>?_⟩
 have hm:=(DW (mo':=mo) hB hr (mN omg) _ _ rfl).2.2 (by show((0:Nat):Int)≤mo;omega) h1
 exact .inr ⟨h0,_,hm,rfl⟩
def Vk (L:List (List Int)):Nat→List Int
 |0=>[]
 |i+1=>Vk L i++gj (if i+1=L.length then 1 else 0) (L.getD i [])
end Go.ab
namespace Go.ab
open Go.ag Go.ae
structure Bk (L:List (List Int)) (i:Nat):Prop where
 le:i≤L.length
 few:∀j,j<i→(L.getD j []).length≤1000
 wH:∀j,j<i→aq (L.getD j [])
 aeX:(L.take i).flatten.length≤1000*i
 aeU:(Vk L i).length≤1005*i
end Go.ab
namespace Go.ag
structure Po (bs:List Int) (i:Nat) (o:List Int):Prop where
 len:o.length=(bs.length+7)/8
 wH:aq o
 get:∀k,k<i→iF o k=bs.getD k 0
 zero:∀k,i≤k→iF o k=0
end Go.ag
namespace Go.ab
open Go.ag Go.ae
def fxX (s:Int):Int:=if 280≤s then 192+s-280 else if 256≤s then s-256 else if 144≤s then 400+s-144 else 48+s
def fxN (s:Int):Nat:=if 280≤s then 8 else if 256≤s then 7 else if 144≤s then 9 else 8
structure Pq (bs o:List Int):Prop where
 wH:aq o
 len:bs.length≤8*o.length
 get:∀i,i<bs.length→iF o i=bs.getD i 0
section
variable {bs o u w r out:List Int} {mo s y d:Int} {z:St}
structure Rd (o:List Int) (mo:Int) (z:St) (a:Nat) (out:List Int):Prop where
 xF:fS o mo start z
 at_:z.at_=a
 out:z.out=out
 kind:z.kind=1
 ax:z.ax=0
 ended:z.ended=false
 last:z.last=true
 lits:z.lits=dO
 du:z.du=jT
def WN (d:Nat):Nat→List Int→List Int
 |0,l=>l
 |k+1,l=>WN d k (l++[l.getD (l.length-d) 0])
def jx (n d:Int):List Int:=wb dO (254+n)++wb jT (d-1)
end
def MV (d:Int):List Int→List Int
 |[]=>[]
 |m::l=>jx (3+m%8) d++MV d l
def Xu (d:Int):List Int→List Int→List Int
 |[],out=>out
 |m::l,out=>Xu d l (WN d.toNat (3+m%8).toNat out)
def aeH (head:List Int) (d:Int) (l:List Int):List Int:=mJ 3 3++ae.bits dO head++MV d l
end Go.ab
namespace Go.ab
open Go.ag Go.ae
def kN{l:List Int}{i:Nat}(h:i<l.length):l.take (i+1)=l.take i++[l.getD i 0]:=by
 rw[List.take_succ_eq_append_getElem h]
 simp[List.getD_eq_getElem?_getD,h]
def B01 (l:List Int):Prop:=∀x∈l,0≤x∧x≤1
end Go.ab
namespace Go.ab
open Go.ag Go.ae
end Go.ab
namespace Go.aN
open Go.ag Go.ae Go.ab
def x3 (x y z:Int):Int:=IntKind.u32.wrap ((BitVec.ofInt IntKind.u32.bits (IntKind.u32.wrap ((BitVec.ofInt IntKind.u32.bits (IntKind.u32.wrap (x*2^(min (16:Int).toNat IntKind.u32.bits)))|||BitVec.ofInt IntKind.u32.bits (IntKind.u32.wrap (y*2^(min (8:Int).toNat IntKind.u32.bits)))).toNat:Int))|||BitVec.ofInt IntKind.u32.bits z).toNat:Int)
def o6 (x y z:Int):Int:=(IntKind.u32.wrap (x3 x y z*2654435761)).fdiv (2^(min (19:Int).toNat IntKind.u32.bits))
def hs (B:List Int) (a:Nat):Int:=o6 (B.getD a 0) (B.getD (a+1) 0) (B.getD (a+2) 0)
structure Fd where
 hd:List Int
 nx:List Int
def Wx (B:List Int) (f:Fd) (a:Nat):Fd:=if B.length<a+3 then f else⟨f.hd.set (hs B a).toNat (a:Int),f.nx.set a (f.hd.getD (hs B a).toNat 0)⟩
def F4 (B:List Int) (f:Fd) (a:Nat):Nat→Fd
 |0=>f
 |k+1=>Wx B (F4 B f a k) (a+k)
def FL (B:List Int) (old a:Nat):Nat→Nat→Nat
 |0,n=>n
 |f+1,n=>if a+n<B.length∧B.getD (old+n) 0=B.getD (a+n) 0 then FL B old a f (n+1) else n
def alk (B:List Int) (old a:Nat):Nat:=FL B old a 258 0
def wE (B nx:List Int) (a:Nat):Nat→Int→Int→Int→Int×Int
 |0,_,n,cm=>(n,cm)
 |t+1,old,n,cm=>if old= -1∨32768<(a:Int)-old then(n,cm) else
  if n<(alk B old.toNat a:Int) then wE B nx a t (nx.getD old.toNat 0) (alk B old.toNat a) ((a:Int)-old) else wE B nx a t (nx.getD old.toNat 0) n cm
def ub (B:List Int) (f:Fd) (a:Nat):Int×Int:=if B.length<a+3 then(0,0) else wE B f.nx a 24 (f.hd.getD (hs B a).toNat 0) 0 0
structure dR where
 lit:Int
 n:Int
 cm:Int
def zF (B:List Int):Nat→Fd→Nat→List dR
 |0,_,_=>[]
 |q+1,f,a=>if a<B.length then
   (if(ub B f a).1<3 then⟨B.getD a 0,0,0⟩::zF B q (F4 B f a 1) (a+1)
    else⟨0,(ub B f a).1,(ub B f a).2⟩::zF B q (F4 B f a (ub B f a).1.toNat) (a+(ub B f a).1.toNat)) else []
def fd0 (B:List Int):Fd:=⟨List.replicate 8192 (-1),List.replicate B.length 0⟩
def xA (B:List Int):List dR:=zF B B.length (fd0 B) 0
structure Alk (B:List Int) (old a n:Nat):Prop where
 le:n≤258
 room:a+n≤B.length∨n=0
 same:∀i,i<n→B.getD (old+i) 0=B.getD (a+i) 0
structure Fok (B:List Int) (n:Nat) (f:Fd):Prop where
 hl:f.hd.length=8192
 nl:f.nx.length=B.length
 h:∀i,i<8192→ -1≤f.hd.getD i 0∧f.hd.getD i 0<n
 x:∀i,i<B.length→ -1≤f.nx.getD i 0∧(f.nx.getD i 0<n∨f.nx.getD i 0=0)
structure Fs (B:List Int) (a:Nat) (r:Int×Int):Prop where
 or_:(r.1=0∧r.2=0)∨(1≤r.1∧r.1≤258∧1≤r.2∧r.2≤32768∧r.2≤a∧a+r.1.toNat≤B.length∧∀i,i<r.1.toNat→B.getD (a-r.2.toNat+i) 0=B.getD (a+i) 0)
def exT:List dR→List Int→List Int
 |[],o=>o
 |t::l,o=>exT l (if t.n=0 then o++[t.lit] else WN t.cm.toNat t.n.toNat o)
structure xt (t:dR):Prop where
 or_:(t.n=0∧t.cm=0∧0≤t.lit∧t.lit<256)∨(t.lit=0∧3≤t.n∧t.n≤258∧1≤t.cm∧t.cm≤32768)
inductive wB (B:List Int):Nat→List dR→Prop
 |nil:wB B B.length []
 |lit {a:Nat} {l:List dR}:a<B.length→wB B (a+1) l→wB B a (⟨B.getD a 0,0,0⟩::l)
 |cp {a n d:Nat} {l:List dR}:3≤n→n≤258→1≤d→d≤32768→d≤a→a+n≤B.length→(∀i,i<n→B.getD (a-d+i) 0=B.getD (a+i) 0)→wB B (a+n) l→wB B a (⟨0,n,d⟩::l)
section
variable {B nx:List Int} {a k o:Nat} {old n cm:Int}
end
end Go.aN
namespace Go.aN
open Go.ag Go.ae Go.ab
def Fu (lim x:Int):Nat→Nat→Nat
  |0,m=>m
  |f+1,m=>if lim≤x/2^m then Fu lim x f (m+1) else m
def xe (lim x:Int):Nat:=Fu lim x 16 0
def yo (n:Int):Int:=if n-3=255 then 285 else if n-3<8 then 257+(n-3) else 257+4*(xe 8 (n-3):Int)+(n-3)/2^xe 8 (n-3)
def LU (n:Int):Nat:=if n-3=255 then 0 else if n-3<8 then 0 else xe 8 (n-3)
def Kf (n:Int):Int:=if n-3=255 then 0 else if n-3<8 then 0 else(n-3)%2^xe 8 (n-3)
def xK (f:Int):Int:=if f-1<4 then f-1 else 2*(xe 4 (f-1):Int)+(f-1)/2^xe 4 (f-1)
def Lc (f:Int):Nat:=if f-1<4 then 0 else xe 4 (f-1)
def JH (f:Int):Int:=if f-1<4 then 0 else(f-1)%2^xe 4 (f-1)
structure Mr (lim x:Int) (m:Nat):Prop where
  lt:x/2^m<lim
  ge:m=0∨lim≤x/2^(m-1)
  le:m≤13
def xU (ls ds:List Int) (t:dR):List Int:=if t.n=0 then wb ls t.lit else wb ls (yo t.n)++mJ (Kf t.n) (LU t.n)++wb ds (xK t.cm)++mJ (JH t.cm) (Lc t.cm)
def ua (ls ds:List Int) (l:List dR):List Int:=l.flatMap (xU ls ds)
structure Fits (ls ds:List Int) (l:List dR):Prop where
  ok:∀t∈l,xt t
  lit:∀t∈l,t.n=0→t.lit<ls.length∧p9 ls t.lit=true
  cp:∀t∈l,t.n≠0→yo t.n<ls.length∧p9 ls (yo t.n)=true∧xK t.cm<ds.length∧p9 ds (xK t.cm)=true
  end_:(256:Int)<ls.length∧p9 ls 256=true
end Go.aN
namespace Go.my
abbrev Pk:=Int×List Int
def prd:List Pk→List Pk
  |a::b::l=>(a.1+b.1,a.2++b.2)::prd l
  |_=>[]
def sy (l:List Pk) (m:Nat):List Int:=(l.take m).flatMap (·.2)
def UM:List Pk→List Pk→List Pk
  |[],P=>P
  |A,[]=>A
  |a::A,b::P=>if a.1≤b.1 then a::UM A (b::P) else b::UM (a::A) P
termination_by A P=>A.length+P.length
abbrev sj (l:List Pk):Prop:=l.Pairwise (fun x y=>x.1≤y.1)
structure SS (l l':List Pk):Prop where
  srt:sj l'
  aeM:∀c,l'.filter (fun x=>decide (x.1=c))=l.filter (fun x=>decide (x.1=c))
end Go.my
namespace Go.my
def lv (A:List Pk):Nat→List Pk
  |0=>[]
  |j+1=>UM A (prd (lv A j))
def sm (A:List Pk) (i:Nat):Int:=(A.getD i (0,[])).2.headD 0
structure Lf (A:List Pk):Prop where
  srt:sj A
  one:∀i,i<A.length→(A.getD i (0,[])).2=[sm A i]
  inj:∀i j,i<A.length→j<A.length→sm A i=sm A j→i=j
  pos:∀x∈A,0<x.1
def Hv (A:List Pk) (e:Pk):Prop:=0≤e.1∧∀i,i<A.length→sm A i∈e.2→(A.getD i (0,[])).1≤e.1
def ct (A:List Pk) (j m i:Nat):Nat:=(sy (lv A j) m).count (sm A i)
def sm2 (f:Nat→Nat):Nat→Nat
  |0=>0
  |n+1=>sm2 f n+f n
end Go.my
namespace Go.my
open Go.ae
def UK (s:Nat→Int) (v:Nat→Int) (base:List Int):Nat→List Int
  |0=>base
  |k+1=>(UK s v base k).set (s k).toNat (v k)
def cs (A:List Pk) (most:Nat):List Int:=(List.range A.length).map (fun i=>(ct A most (2*A.length-2) i:Int))
structure Ln (A:List Pk) (most:Nat) (vs:List Int):Prop where
  perm:vs.Perm (cs A most)
  down:vs.Pairwise (fun x y=>y≤x)
def out (A:List Pk) (vs:List Int) (L:Nat):List Int:=UK (sm A) (fun i=>vs.getD i 0) (List.replicate L 0) A.length
structure Good (A:List Pk) (most L:Nat) (o:List Int):Prop where
  len:o.length=L
  leaf:∀i,i<A.length→1≤o.getD (sm A i).toNat 0∧o.getD (sm A i).toNat 0≤most
  rest:∀x,(∀i,i<A.length→(sm A i).toNat≠x)→o.getD x 0=0
  down:∀i j,i≤j→j<A.length→o.getD (sm A j).toNat 0≤o.getD (sm A i).toNat 0
  code:bp o=0
end Go.my
namespace Go.my
open Go.ae
def V6 (fr:List Int) (k:Nat):List Pk:=((List.range k).filter (fun i=>decide (0<fr.getD i 0))).map (fun i:Nat=>(fr.getD i 0,[(i:Int)]))
def cO (L:Nat) (X:List Int):List Int:=(List.range L).map (fun k:Nat=>(X.count (k:Int):Int))
structure XH (fr:List Int) (most:Nat) (o:List Int):Prop where
 len:o.length=fr.length
 code:bp o=0
 pos:∀i,i<fr.length→0<fr.getD i 0→1≤o.getD i 0∧o.getD i 0≤most
 zero:∀i,i<fr.length→¬0<fr.getD i 0→o.getD i 0=0
 one:(V6 fr fr.length).length=1→∀i,o.getD i 0≤1
 down:∀i k,i<fr.length→k<fr.length→fr.getD k 0<fr.getD i 0→0<fr.getD k 0→o.getD i 0≤o.getD k 0
end Go.my
namespace Go.my
open Go.ae
def RY (x:Pk):List Pk→List Pk
  |[]=>[x]
  |y::ys=>if x.1≤y.1 then x::y::ys else y::RY x ys
def JO:List Pk→List Pk
  |[]=>[]
  |x::xs=>RY x (JO xs)
def xE (fr:List Int) (most:Nat):List Int:=
  match V6 fr fr.length with
  |[]=>List.replicate fr.length 0
  |[x]=>(List.replicate fr.length 0).set (x.2.headD 0).toNat 1
  |l=>out (JO l) ((cs (JO l) most).mergeSort fun x y=>decide (x≤y)).reverse fr.length
structure aeB (fr:List Int) (most:Nat) (o:List Int):Prop extends XH fr most o where
  oy:o=xE fr most
end Go.my
namespace Go.aN
open Go.ag Go.ae Go.ab
def NR (fr:List Int):Nat→Int
  |0=>0
  |k+1=>if NR fr k<fr.getD k 0 then fr.getD k 0 else NR fr k
def Th (x:Int):Nat→Nat→Nat
  |0,m=>m
  |f+1,m=>if 1048576<x/2^m then Th x f (m+1) else m
def dn (fr:List Int):Nat:=Th (NR fr fr.length) 16 0
def rr (d:Nat) (x:Int):Int:=if 0<x then(if 1<x/2^d then x/2^d else 1) else x
def LD (fr:List Int) (d:Nat):Nat→List Int
  |0=>fr
  |k+1=>(LD fr d k).set k (rr d (fr.getD k 0))
def Ap (fr:List Int):List Int:=LD fr (dn fr) fr.length
def BC (l:List Int) (s:Int):List Int:=l.set s.toNat (l.getD s.toNat 0+1)
def ab6 (t:dR):Int:=if t.n=0 then t.lit else yo t.n
def An:List dR→List Int→List Int
  |[],a=>a
  |t::l,a=>An l (BC a (ab6 t))
def KS:List dR→List Int→List Int
  |[],b=>b
  |t::l,b=>KS l (if t.n=0 then b else BC b (xK t.cm))
def ZQ:List Int:=(List.replicate 286 0).set 256 1
def Zo:List Int:=List.replicate 30 0
def fA (l:List dR):List Int:=Ap (An l ZQ)
def fB (l:List dR):List Int:=Ap (KS l Zo)
end Go.aN
namespace Go.aN
open Go.ag Go.ae Go.ab
def jA:Nat→List Int→List (List Int)
  |0,Z=>[Z]
  |f+1,Z=>if Z.length≤65535 then [Z] else Z.take 65535::jA f (Z.drop 65535)
def AJ:∀(f:Nat) (Z:List Int),∃X L,jA f Z=X::L
  |0,Z=>⟨Z,[],rfl⟩
  |f+1,Z=>by
    unfold jA
    split
    · exact⟨_,_,rfl⟩
    · exact⟨_,_,rfl⟩
def vu{Z:List Int}(h:Z.length≤65535):∀f,jA f Z=[Z]
  |0=>rfl
  |f+1=>if_pos h
def vo{Z:List Int}(h:65535<Z.length)(f:Nat):gg (jA (f+1) Z)=gj 0 (Z.take 65535)++gg (jA f (Z.drop 65535)):=by
  have h0:jA (f+1) Z=Z.take 65535::jA f (Z.drop 65535):=if_neg omg
  rw[h0]
  obtain⟨X,L,e⟩:=AJ f (Z.drop 65535)
  rw[e];rfl
def vp:∀(f:Nat) (Z:List Int),(jA f Z).flatten=Z
  |0,Z=>by simp[jA]
  |f+1,Z=>by
    unfold jA
    split
    · simp
    · rw[List.flatten_cons,vp f,List.take_append_drop]
def sA:∀(f:Nat) (Z:List Int),Z.length≤65535*(f+1)→∀X∈jA f Z,X.length≤65535
  |0,Z,h,X,hX=>by simp only[jA,List.mem_singleton] at hX;subst hX;omega
  |f+1,Z,h,X,hX=>by
    unfold jA at hX
    split at hX
    · rw[List.mem_singleton.1 hX];assumption
    · rcases List.mem_cons.1 hX with rfl|hX
      · rw[List.length_take];omega
      · exact sA f _ (by rw[List.length_drop];omega) X hX
def OH:∀(f:Nat) (Z:List Int),Z.length≤65535*(f+1)→(gg (jA f Z)).length≤Z.length+5*(Z.length/65535+1)
  |0,Z,h=>by show(gj 1 Z).length≤_;rw[lG];omega
  |f+1,Z,h=>by
    rcases Nat.lt_or_ge 65535 Z.length with h1|h1
    · have ih:=OH f (Z.drop 65535) (by rw[List.length_drop];omega)
      rw[vo h1,List.length_append,lG,List.length_take]
      rw[List.length_drop] at ih
      omega
    · rw[vu h1];show(gj 1 Z).length≤_;rw[lG];omega
def Bi:∀(f:Nat) (Z:List Int),Z.length≤65535*(f+1)→(gg (jA f Z)).length=Z.length+5*((Z.length-1)/65535+1)
  |0,Z,h=>by show(gj 1 Z).length=_;rw[lG];omega
  |f+1,Z,h=>by
    rcases Nat.lt_or_ge 65535 Z.length with h1|h1
    · have ih:=Bi f (Z.drop 65535) (by rw[List.length_drop];omega)
      rw[vo h1,List.length_append,lG,List.length_take]
      rw[List.length_drop] at ih
      omega
    · rw[vu h1];show(gj 1 Z).length=_;rw[lG];omega
def iX (B:List Int):List Int:=gg (jA 64 B)
def VL(B:List Int):[]++gg (jA 64 B)=iX B:=rfl
def Kc{O Z B:List Int}{f:Nat}(h:O++gg (jA f Z)=iX B)(hZ:Z.length≤65535):O++[1,(Z.length:Int)%256,(Z.length:Int)/256,255-(Z.length:Int)%256,255-(Z.length:Int)/256]++Z=iX B:=by
  rw[←h,vu hZ,List.append_assoc];rfl
def Kr{O Z B:List Int}{f:Nat}(h:O++gg (jA (f+1) Z)=iX B)(hZ:65535<Z.length):O++[0,(65535:Int)%256,(65535:Int)/256,255-(65535:Int)%256,255-(65535:Int)/256]++Z.take 65535++gg (jA f (Z.drop 65535))=iX B:=by
  rw[←h,vo hZ]
  have:(Z.take 65535).length=65535:=by rw[List.length_take];omega
  unfold gj
  rw[this]
  simp only[List.append_assoc]
  rfl
def yq{B:List Int}(h:B.length≤4194304):(iX B).length=B.length+5*((B.length-1)/65535+1):=Bi 64 B omg
def P4{B t:List Int}(h:B.length≤4194304)(hB:aq B)(ht:aq t):iU (iX B++t) B.length (B,((iX B).length:Int),0)∧∀mo:Int,0≤mo→mo<B.length→iU (iX B++t) mo ([],0,6):=by
  obtain⟨X,L,e⟩:=AJ 64 B
  have h1:=Kx (L:=jA 64 B) (by rw[e];simp) (fun X hX=>⟨sA 64 B omg X hX,fun x hx=>hB x (by
    have:=vp 64 B
    rw[←this];exact List.mem_flatten.2 ⟨X,hX,hx⟩)⟩) ht
  rw[vp] at h1
  exact h1
end Go.aN
namespace Go.my
open Go.ae
end Go.my
namespace Go.aN
open Go.ag Go.ae Go.ab
def nB (bs:List Int) (a:Nat):Nat→Int
  |0=>0
  |n+1=>nB bs a n+bs.getD (a+n) 0*2^n
def Nf (bs:List Int):List Int:=(List.range ((bs.length+7)/8)).map fun j=>nB bs (8*j) 8
def fxB (l:List dR):List Int:=mJ 1 1++mJ 1 2++(ua dO jT l++wb dO 256)
def Tp (l:List dR):List Int:=Nf (fxB l)
def dA (l:List dR):List Int:=my.xE (fA l) 15
def dB (l:List dR):List Int:=my.xE (fB l) 15
def KL:List Int→List Int→List Int
  |[],f=>f
  |n::l,f=>KL l (BC f n)
def LI (l:List dR):List Int:=dA l++dB l
def dC0:List Int:=List.replicate 19 0
def Y7 (l:List dR):List Int:=KL (LI l) dC0
def dF (l:List dR):List Int:=my.xE (Y7 l) 7
def dH (f:List Int) (k:Nat):List Int:=(kx.take k).flatMap fun i=>mJ (f.getD i.toNat 0) 3
def Z8:List Int:=mJ 1 1++mJ 2 2++mJ 29 5++mJ 29 5++mJ 15 4
def dyB (l:List dR):List Int:=Z8++dH (dF l) 19++ae.bits (dF l) (LI l)++(ua (dA l) (dB l) l++wb (dA l) 256)
def Vh (l:List dR):List Int:=Nf (dyB l)
end Go.aN
namespace Go.aN
open Go.ag Go.ae Go.ab
def Y8 {α:Type} (a b c:α):Nat→α
  |0=>a
  |1=>b
  |_=>c
def bi (n:Nat→Nat):Nat→Nat
  |0=>0
  |k+1=>if n (k+1)<n (bi n k) then k+1 else bi n k
def sN (B:List Int):Nat→Nat:=Y8 (iX B).length (Tp (xA B)).length (Vh (xA B)).length
def qx (B:List Int):List Int:=Y8 (iX B) (Tp (xA B)) (Vh (xA B)) (bi (sN B) 2)
end Go.aN
namespace Go.aN
open Go.ag Go.ae Go.ab
end Go.aN
namespace Go.aN
open Go.ag Go.ae Go.ab
def Gl (n:Int):Int:=if n<0 then 0 else n
def most (n:Int):Int:=if 0<Gl n%65535 then Gl n+5*(Gl n/65535+1)+5 else Gl n+5*(Gl n/65535)+5
end Go.aN
namespace Go.aN
open Go.ag Go.ae Go.ab
structure Rq (ls ds o:List Int) (mo:Int) (z:St) (a:Nat) (out:List Int):Prop where
  xF:fS o mo ab.start z
  at_:z.at_=a
  out:z.out=out
  k1:¬z.kind= -1
  k2:¬z.kind=0
  ax:z.ax=0
  ended:z.ended=false
  last:z.last=true
  lits:z.lits=ls
  du:z.du=ds
section
variable {ls ds bs o u r out:List Int} {mo y:Int} {z:St} {t:dR}
end
end Go.aN
namespace Go.aN
open Go.ag Go.ae Go.ab
end Go.aN
namespace Go.aN
open Go.ag Go.ae Go.ab
section
variable {B:List Int} {b:Int}
def Cst (B:List Int) (b:Int):Prop:=∀i,i<B.length→B.getD i 0=b
end
end Go.aN
namespace Go.aN
open Go.ag Go.ae Go.ab
def nxR (x:Int):Int:=IntKind.u32.wrap (IntKind.u32.wrap (x*1664525)+1013904223)
def nzV (x:Int):Int:=IntKind.u8.wrap (x.fdiv (2^(min (24:Int).toNat IntKind.u32.bits)))
structure Gd (B:List Int):Prop where
  zb:(qx B).length≤30000000
  wH:aq (qx B)
  res:iU (qx B) (B.length:Int) (B,((qx B).length:Int),0)
  most:((qx B).length:Int)≤(B.length:Int)+5*(((B.length:Int)+65534)/65535)+5
def aq.snoc{l:List Int}{y:Int}(h:aq l)(hy:0≤y∧y<256):aq (l++[y]):=fun x hx=>by
  rcases List.mem_append.1 hx with hx|hx
  · exact h x hx
  · rw[List.mem_singleton.1 hx];exact hy
end Go.aN
namespace Go.aN
open Go.ag
def aq.app{a b:List Int}(h:aq a)(k:aq b):aq (a++b):=fun x hx=>by
  rcases List.mem_append.1 hx with hx|hx
  · exact h x hx
  · exact k x hx
end Go.aN
namespace Go.aN
open Go.ag Go.ab
def jc:aq []:=fun x hx=>by cases hx
end Go.aN
namespace Go.aN
end Go.aN

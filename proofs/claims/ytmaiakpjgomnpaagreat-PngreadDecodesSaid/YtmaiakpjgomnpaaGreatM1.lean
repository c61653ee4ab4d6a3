/- Walks of functions that the law reaches, and what they lean on; no conditions. -/
import Derived.Test.YtmaiakpjgomnpaaGreatM0
import Derived.Laws.AppendOwn
import Derived.Laws.MakeOwn
import Derived.Still
import Derived.OpenShut
import Derived.ChangeArms
set_option linter.defProp false
set_option maxHeartbeats 16000000
set_option maxRecDepth 100000
set_option linter.unusedVariables false
set_option linter.unusedSimpArgs false
set_option maxRecDepth 100000
namespace Go.Sl
open Go.RowKit (Below)
def Sl.open_{p:Option Addr}{n cap T sz:Nat}{vs:List Value}(w0:World)(h:Hp)(hs:Sl p n cap T sz vs w0 h):
  ∃z:Option (Nat×Nat×List Value×List Value),(match z with
   |none=>p=none∧n=0∧cap=0∧vs=[]
   |some (b,o,pre,post)=>p=some ⟨b,o,none⟩∧pre.length=o∧vs.length=n*sz∧(cap-n)*sz≤post.length∧n≤cap)∧
   cY w0 (match z with|none=>[]|some (b,o,pre,post)=>[ai b T (pre++vs++post)]) h:=by
 rcases hs with⟨rfl,rfl,rfl,rfl⟩|⟨b,o,pre,post,e1,e2,e3,e4,e5,e6⟩
 ·exact⟨none,⟨rfl,rfl,rfl,rfl⟩,trivial⟩
 ·exact⟨some (b,o,pre,post),⟨e1,e3,e4,e5,e6⟩,h,fun _=>none,fun _=>.inr rfl,Hp.le_refl _,fun _ _ e=>by simp at e,e2,trivial⟩
def Sl.mk{b o n cap T sz:Nat}{pre vs post:List Value}{w0:World}{h:Hp}(hc:cY w0 [ai b T (pre++vs++post)] h)(h1:pre.length=o)(h2:vs.length=n*sz)(h3:(cap-n)*sz≤post.length)(h4:n≤cap):Sl (some ⟨b,o,none⟩) n cap T sz vs w0 h:=by
 obtain⟨g,g2,_,l1,_,c,_⟩:=hc
 exact .inr ⟨b,o,pre,post,rfl,c.mono l1,h1,h2,h3,h4⟩
def ai.sl{b n T sz:Nat}{vs:List Value}{w0:World}{h:Hp}(hc:ai b T vs w0 h)(h2:vs.length=n*sz):Sl (soz b) n n T sz vs w0 h:=
 .inr ⟨b,0,[],[],rfl,by simpa using hc,rfl,h2,by simp,Nat.le_refl _⟩
def Sl.nil(T sz:Nat)(w0:World)(h:Hp):Sl none 0 0 T sz [] w0 h:=.inl ⟨rfl,rfl,rfl,rfl⟩
def Inv.Gn{w0 w:World}{L:List ad}(hi:Inv w0 L w)(T sz:Nat):Inv w0 (Sl none 0 0 T sz []::L) w:=hi.yd (Sl.nil T sz _ _)
section
variable {C:Ctx} {Q:QT} {E:Env} {L L':List ad} {ops:Array Oper} {rest:List Oper} {d:Nat} {ty:TypeId} {pos:String} {aft:Array Edge} {op:Op} {v:Value}
def S9(A:ad)(hA:A C.w0 (fun _=>none))(k:dr C ops rest Q E (A::L)):dr C ops rest Q E L:=fun a w ha hi=>k a w ha (hi.yd hA)
def gL{c:Code}(A:ad)(hA:A C.w0 (fun _=>none))(k:Wp C c Q E (A::L)):Wp C c Q E L:=fun a w ha hi=>k a w ha (hi.yd hA)
def XT{A B:ad}{F:List ad}(hr:ij L A F)(hA:∀h,A C.w0 h→B C.w0 h)(k:dr C ops rest Q E (B::F)):dr C ops rest Q E L:=fun a w ha hi=>k a w ha ((hi.perm hr.perm).imp hA)
def kp{b:Builtin}{xs:List Operand}{tys:Array TypeId}{vs:List Value}{a:Act}(hx:xs.toArray.map a.eval=vs.toArray)(d:Option Nat)(g:Option (Nat×Bool))(w:World):
  ∃consts,(execOp a.eval ⟨d,.call ⟨.builtin b,xs.toArray,tys⟩,ty,pos,aft,g⟩).run C.P w=(builtin b tys ty consts vs.toArray).run C.P w:=by
 refine⟨xs.toArray.map fun|.const _=>true|_=>false,?_⟩
 simp only[execOp,resolve,hx,Sem.run_bind,Sem.run_pure,Result.andThen_ok,invoke]
 rfl
def Af{s x:Operand}{t e sz cJ n m cap cap2:Nat}{p p2:Option Addr}{vs ws zs:List Value}{R:ad}{F:List ad}
  (ht:sliceB C.P t=some (e,sz,cJ)) (hz:cW C.P e=some zs) (hsz:Nat.ble 1 sz=true) (hby:Nat.ble 1 cJ=true)
  (hs:au E s=some (.slice p n cap)) (hx:au E x=some (.slice p2 m cap2))
  (hL:ij L (Sl p n cap e sz vs) F) (hm:R∈L) (hR:∀h,R C.w0 h→Rd p2 m sz ws C.w0 h) (h1:ws.all Value.oneCell'=true) (hb:(n+m)*cJ≤140737488355328):
  lk C (.call ⟨.builtin .append,[s,x].toArray, #[t,t]⟩) ty E L (fun v L'=>∃p' cap',v=.slice p' (n+m) cap'∧L'=Sl p' (n+m) cap' e sz (vs++ws)::F):=by
 intro d pos aft g a w K Qx ha hi hK
 obtain⟨ht1,i,hi2,rfl,rfl⟩:=j8 ht
 obtain⟨i',z,hz1,hz2,hz3,hz4⟩:=kJ hz
 rw[hi2] at hz1
 cases hz1
 have hsz:=Nat.le_of_ble_eq_true hsz
 have hby:=Nat.le_of_ble_eq_true hby
 have hnm:n+m≤(n+m)*i.bytes:=Nat.le_mul_of_pos_right _ hby
 have hsmall:n+m≤140737488355328:=omg
 obtain⟨hwl,hwc⟩:=hi.rd hm hR
 obtain⟨consts,hrun⟩:=kp (C:=C) (ty:=ty) (pos:=pos) (aft:=aft) (b:=.append) (xs:=[s,x]) (tys:= #[t,t]) (vs:=[.slice p n cap,.slice p2 m cap2]) (a:=a) (by simp[ha.eval hs,ha.eval hx]) d g w
 suffices h:∃p' cap' w',(Builtin.append_ #[t,t] ty #[.slice p n cap,.slice p2 m cap2]).run C.P w=.ok (.slice p' (n+m) cap') w'∧Inv C.w0 (Sl p' (n+m) cap' e i.size (vs++ws)::F) w' by
  obtain⟨p',cap',w',hr,hi'⟩:=h
  unfold Oper.wp
  rw[hrun]
  simp only[builtin,Sem.run_bind,hr,Result.andThen_ok,Sem.run_pure]
  exact hK _ _ _ ⟨p',cap',rfl,rfl⟩ hi'
 have hfirst:∀w1:World,(∀q,w1.cell? q=w.cell? q)→(Builtin.firstCells i.size m (.slice p2 m cap2)).run C.P w1=.ok ws.toArray w1:=by
  intro w1 hw1
  by_cases hm0:m=0
  ·subst hm0
   simp at hwl
   subst hwl
   cases p2<;>simp[Builtin.firstCells,loadCells,loadCellsFrom]
  ·rcases hwc with hwc|⟨b2,o2,rfl,hc⟩
   ·exact absurd hwc hm0
   ·exact run_firstCells_some (P:=C.P) w1 i.size m _ m cap2 ws hwl (fun j v hj=>by rw[hw1,Addr.gl];exact hc j v hj)
 have hall:∀u∈ws,u.oneCell'=true:=fun u hu=>by simpa using List.all_eq_true.1 h1 u hu
 have hgrow:∀(vs0:List Value),vs0=vs→n*i.size=vs.length→cap<n+m→
   (∀w1:World,(∀q,w1.cell? q=w.cell? q)→(Builtin.firstCells i.size n (.slice p n cap)).run C.P w1=.ok vs.toArray w1)→
   Inv C.w0 F w→
   ∃p' cap' w',(Builtin.append_ #[t,t] ty #[.slice p n cap,.slice p2 m cap2]).run C.P w=.ok (.slice p' (n+m) cap') w'∧Inv C.w0 (Sl p' (n+m) cap' e i.size (vs++ws)::F) w':=by
  intro vs0 _ hvl hlt hold hiF
  have hfit:Builtin.nextslicecap (n+m) cap*i.bytes≤281474976710656:=growslice_fits hlt hb
  have h63:¬(9223372036854775807<((n:Int)+(m:Int))):=omg
  have h48:¬(281474976710656<Builtin.nextslicecap (n+m) cap*i.bytes):=omg
  have hng:¬(n+m≤cap):=omg
  refine⟨some ⟨w.heap.size,0,none⟩,grownCap w (n+m) cap e,w.drew.alloc (.cells (vs++ws++(Builtin.zeroCells z.cells (grownCap w (n+m) cap e-(n+m))).toList).toArray e),?_,?_⟩
  ·have e1:=hold w.drew (fun q=>by simp)
   have e2:=hfirst w.drew (fun q=>by simp)
   have harr:∀Z:Array Value,(vs++ws++Z.toList).toArray=vs.toArray++ws.toArray++Z:=fun Z=>by apply Array.ext';simp
   rw[harr]
   simp[Builtin.append_,run_underlying ht1,sizeOf,typeInfo,zeroValue,hi2,hz2,Builtin.lenOf,hng,h63,h48,Question.forced,e1,e2,newRow,grownCap]
   congr 1
   congr 1
   apply Array.ext'
   simp
  ·have hge:=grownCap_ge w (n+m) cap e
   refine Inv.imp ?_ (hiF.drew.alloc e (vs++ws++(Builtin.zeroCells z.cells (grownCap w (n+m) cap e-(n+m))).toList))
   intro h hc
   refine .inr ⟨_,0,[],(Builtin.zeroCells z.cells (grownCap w (n+m) cap e-(n+m))).toList,rfl,by simpa using hc,rfl,?_,?_,hge⟩
   ·simp[←hvl,hwl,Nat.add_mul]
   ·have:z.cells.size=i.size:=by rw[hz3,hz4];simp
    simp[size_zeroCells,this]
 obtain⟨zz,hzz,hi1⟩:=(hi.perm hL.perm).zr (Sl.open_ C.w0)
 cases zz with
 |none=>
  obtain⟨rfl,rfl,rfl,rfl⟩:=hzz
  by_cases hm0:m=0
  ·subst hm0
   simp at hwl
   subst hwl
   refine⟨none,0,w,?_,(hi1.Gn e i.size)⟩
   have e1:=hfirst w (fun q=>rfl)
   simp[Builtin.append_,run_underlying ht1,sizeOf,typeInfo,hi2,Builtin.lenOf,e1]
  ·exact hgrow [] rfl (by simp) omg (fun w1 _=>by simp[Builtin.firstCells]) hi1
 |some zz=>
  obtain⟨b,o,pre,post⟩:=zz
  obtain⟨rfl,e1,e2,e3,e4⟩:=hzz
  by_cases hroom:n+m≤cap
  ·have hfit:o+n*i.size+ws.length≤(pre++vs++post).length:=by
    have:(n+m-n)*i.size≤(cap-n)*i.size:=Nat.mul_le_mul_right _ omg
    rw[show n+m-n=m by omega] at this
    simp only[List.length_append,e1,e2,hwl]
    omega
   obtain⟨w',hr,hi'⟩:=jO (C:=C) ws (o+n*i.size) 0 _ _ w hall (by simpa using hfit) hi1
   refine⟨some ⟨b,o,none⟩,cap,w',?_,?_⟩
   ·have hf:=hfirst w (fun q=>rfl)
    simp[Builtin.append_,run_underlying ht1,sizeOf,typeInfo,hi2,Builtin.lenOf,hroom,hf,Addr.gl,hr]
   ·refine Inv.cls (B:=[ai b e (pre++(vs++ws)++post.drop ws.length)]) (fun h hc=>Sl.mk hc e1 (by simp[e2,hwl,Nat.add_mul]) ?_ hroom) ?_
    ·simp only[List.length_drop,hwl]
     have:(cap-(n+m))*i.size=(cap-n)*i.size-m*i.size:=by rw[←Nat.sub_mul];congr 1;omega
     omega
    ·have e5:(pre++vs++post).take (o+n*i.size+0)=pre++vs:=by
      rw[Nat.add_zero]
      exact List.take_left' (by simp[e1,e2])
     have e6:(pre++vs++post).drop (o+n*i.size+0+ws.length)=post.drop ws.length:=by
      rw[Nat.add_zero,show o+n*i.size+ws.length=(pre++vs).length+ws.length by simp[e1,e2]]
      rw[←List.drop_drop,List.drop_left]
     rw[e5,e6] at hi'
     simpa[List.append_assoc] using hi'
  ·refine hgrow vs rfl e2.symm omg (fun w1 hw1=>?_) hi1.tail
   refine run_firstCells_some (P:=C.P) w1 i.size n _ n cap vs e2 (fun j v hj=>?_)
   have hlt:=(List.getElem?_eq_some_iff.1 hj).1
   rw[hw1,Addr.gl,Inv.jq hi1]
   rw[List.append_assoc,List.getElem?_append_right omg,show o+j-pre.length=j by omega,List.getElem?_append_left hlt]
   exact hj
def Uv{x y:Operand}{t e sz cJ:Nat}{k1 k2:IntKind}{i1 i2:Int}{zs:List Value}(n c:Nat)(e1:i1=(n:Int))(e2:i2=(c:Int))(ht:sliceB C.P t=some (e,sz,cJ))(hz:cW C.P e=some zs)(hsz:Nat.ble 1 sz=true)
  (hx:au E x=some (.int k1 i1)) (hy:au E y=some (.int k2 i2)) (hnc:n≤c) (h63:c≤9223372036854775807) (hb:c*cJ≤281474976710656):
  lk C (.makeSlice t x y) ty E L (fun v L'=>∃b,v=.slice (soz b) n c∧L'=Sl (soz b) n c e sz ((List.replicate n zs).flatten)::L):=by
 intro d pos aft g a w K Qx ha hi hK
 subst e1
 subst e2
 obtain⟨ht1,i,hi2,rfl,rfl⟩:=j8 ht
 obtain⟨i',z,hz1,hz2,hz3,hz4⟩:=kJ hz
 rw[hi2] at hz1
 cases hz1
 have hsz:=Nat.le_of_ble_eq_true hsz
 have hc:((c*i.bytes:Nat):Int)=(i.bytes:Int)*(c:Int):=by rw[Int.natCast_mul,Int.mul_comm]
 have hr:=run_make (P:=C.P) w t e i z ht1 hi2 hz2 k1 k2 n c omg omg omg omg
 have hm:(madeCells z.cells (c*i.size)).toList=(List.replicate c zs).flatten:=by
  have hzl:zs.length=i.size:=hz4.symm
  apply List.ext_getElem?
  intro j
  by_cases hj:j<c*i.size
  ·have h1:((List.replicate c zs).flatten)[j]?=zs[j%i.size]?:=by
    have hgen:∀(c j:Nat),j<c*zs.length→((List.replicate c zs).flatten)[j]?=zs[j%zs.length]?:=by
     intro c
     induction c with
     |zero=>intro j h;simp at h
     |succ c ih=>
      intro j h
      simp only[List.replicate_succ,List.flatten_cons]
      by_cases hj:j<zs.length
      ·rw[List.getElem?_append_left hj,Nat.mod_eq_of_lt hj]
      ·rw[List.getElem?_append_right omg,ih _ (by rw[Nat.succ_mul] at h;omega)]
       congr 1
       exact(Nat.mod_eq_sub_mod omg).symm
    have:=hgen c j (by rw[hzl];exact hj)
    rwa [hzl] at this
   rw[h1]
   have hlt:j%i.size<i.size:=Nat.mod_lt _ omg
   simp[madeCells,hz3,hj]
   rw[hzl]
   simp[hlt,hzl]
  ·rw[List.getElem?_eq_none,List.getElem?_eq_none]
   ·simp[hzl];omega
   ·simp[madeCells];omega
 have hrun:(execOp a.eval ⟨d,.makeSlice t x y,ty,pos,aft,g⟩).run C.P w=.ok (.value (.slice (some ⟨w.heap.size,0,none⟩) n c)) (w.alloc (.cells ((List.replicate c zs).flatten).toArray e)):=by
  simp only[execOp,ha.eval hx,ha.eval hy,Sem.run_bind,hr,Result.andThen_ok,Sem.run_pure,Int.toNat_natCast]
  congr 2
  rw[←hm]
 unfold Oper.wp
 rw[hrun]
 refine hK _ _ _ ⟨_,rfl,rfl⟩ (Inv.imp (fun h hc=>?_) (hi.alloc e _))
 refine .inr ⟨_,0,[],(List.replicate (c-n) zs).flatten,rfl,?_,rfl,by simp[hz4],by simp[hz4],hnc⟩
 have:(List.replicate c zs).flatten=(List.replicate n zs).flatten++(List.replicate (c-n) zs).flatten:=by
  rw[←List.flatten_append,List.replicate_append_replicate,show n+(c-n)=c by omega]
 simp only[List.nil_append]
 rw[←this]
 exact hc
def AX{t e sz cJ len:Nat}{parts:List (Nat×Operand)}{pv:List (Nat×Value)}{zs vs:List Value}(ht:sliceB C.P t=some (e,sz,cJ))(hz:cW C.P e=some zs)(hsz:Nat.ble 1 sz=true)(hsm:Nat.ble (len*sz) 16777216=true)
  (hp:∀a,gr C E a→parts.map (fun p=>(p.1,a.eval p.2))=pv) (hf:Instr.fill (fun i=>some (i*sz,sz)) ((List.replicate len zs).flatten.toArray) pv=some vs.toArray) (hl:vs.length=len*sz):
  lk C (.buildSlice t len parts.toArray) ty E L (fun v L'=>∃b,v=.slice (soz b) len len∧L'=Sl (soz b) len len e sz vs::L):=by
 intro d pos aft g a w K Qx ha hi hK
 obtain⟨ht1,i,hi2,rfl,rfl⟩:=j8 ht
 obtain⟨i',z,hz1,hz2,hz3,hz4⟩:=kJ hz
 rw[hi2] at hz1
 cases hz1
 have hsz:=Nat.le_of_ble_eq_true hsz
 have hsm:=Nat.le_of_ble_eq_true hsm
 have hzl:zs.length=i.size:=hz4.symm
 have hgen:∀(c j:Nat),j<c*zs.length→((List.replicate c zs).flatten)[j]?=zs[j%zs.length]?:=by
  intro c
  induction c with
  |zero=>intro j h;simp at h
  |succ c ih=>
   intro j h
   simp only[List.replicate_succ,List.flatten_cons]
   by_cases hj:j<zs.length
   ·rw[List.getElem?_append_left hj,Nat.mod_eq_of_lt hj]
   ·rw[List.getElem?_append_right omg,ih _ (by rw[Nat.succ_mul] at h;omega)]
    congr 1
    exact(Nat.mod_eq_sub_mod omg).symm
 have hzero:∀zz:Array Value,(len*i.size=0→zz= #[])→(len*i.size≠0→zz=zs.toArray)→(Array.range (len*i.size)).map (zz[· %zz.size]!)=(List.replicate len zs).flatten.toArray:=by
  intro zz h0 h1
  apply Array.ext'
  simp only[Array.toList_map,Array.toList_range]
  apply List.ext_getElem?
  intro j
  by_cases hj:j<len*i.size
  ·rw[h1 omg]
   have hlt:j%i.size<i.size:=Nat.mod_lt _ omg
   rw[hgen len j (by rw[hzl];exact hj),hzl]
   simp[hj,hzl,hlt]
  ·rw[List.getElem?_eq_none,List.getElem?_eq_none]
   ·simp[hzl];omega
   ·simp;omega
 have hmap:parts.toArray.map (fun x=>match x with|(i,x)=>(i,a.eval x))=pv.toArray:=by
  rw[←hp a ha]
  simp
 have hrun:(execOp a.eval ⟨d,.buildSlice t len parts.toArray,ty,pos,aft,g⟩).run C.P w=.ok (.value (.slice (some ⟨w.heap.size,0,none⟩) len len)) (w.alloc (.cells vs.toArray e)):=by
  have h16:¬(len*i.size>2^24):=omg
  simp only[execOp,hmap,Instr.buildSlice,Sem.run_bind,run_underlying ht1,Result.andThen_ok,run_sizeOf hi2,if_neg h16]
  by_cases h0:len*i.size=0
  ·have e:=hzero #[] (fun _=>rfl) (fun h=>absurd h0 h)
   simp only[if_pos h0,Sem.run_bind,Sem.run_pure,Result.andThen_ok,e,hf]
   simp[newRow]
  ·have e:=hzero zs.toArray (fun h=>absurd h h0) (fun _=>rfl)
   simp only[if_neg h0,Sem.run_bind,Sem.run_pure,Result.andThen_ok,zeroValue,typeInfo,run_program,hi2,hz2,hz3,e,hf]
   simp[newRow]
 unfold Oper.wp
 rw[hrun]
 exact hK _ _ _ ⟨_,rfl,rfl⟩ (Inv.imp (fun h hc=>ai.sl hc hl) (hi.alloc e vs))
def rP (E:Env):List (Nat×Operand)→Option (List (Nat×Value))
 |[]=>some []
 |(i,x)::xs=>match au E x with|some v=>(match rP E xs with|some vs=>some ((i,v)::vs)|none=>none)|none=>none
def o4:∀ {ps:List (Nat×Operand)} {pv:List (Nat×Value)},rP E ps=some pv→∀a,gr C E a→ps.map (fun p=>(p.1,a.eval p.2))=pv
 |[],pv,h,a,ha=>by simp only[rP] at h;cases h;rfl
 |(i,x)::ps,pv,h,a,ha=>by
  simp only[rP] at h
  split at h<;>try simp at h
  rename_i v hv
  split at h<;>try simp at h
  rename_i vs hvs
  subst h
  simp[ha.eval hv,o4 hvs a ha]
def eQ (P:Program) (t:TypeId):Option (List (Nat×Nat)):=match P.underlying t with
 |some (.struct fs)=>fs.toList.mapM fun f=>match P.info? f.type with|some i=>some (f.offset,i.size)|none=>none
 |_=>none
def cE{t:TypeId}{parts:List (Nat×Operand)}{pv:List (Nat×Value)}{zs cs:List Value}{pl:List (Nat×Nat)}(hpl:eQ C.P t=some pl)(hz:cW C.P t=some zs)(hp:rP E parts=some pv)(hf:Instr.fill (pl.toArray[·]?) zs.toArray pv=some cs.toArray):
  cx C (.build t parts.toArray) ty E L (.agg cs.toArray) L:=
 dM fun d pos aft g a w ha=>by
  obtain⟨i',z,hz1,hz2,hz3,hz4⟩:=kJ hz
  have hmap:parts.toArray.map (fun x=>match x with|(i,x)=>(i,a.eval x))=pv.toArray:=by
   rw[←o4 hp a ha];simp
  unfold eQ at hpl
  split at hpl
  ·rename_i fs hfs
   have hplaces:((fs.mapM fun f=>do pure (f.offset,←sizeOf f.type)):Sem (Array (Nat×Nat))).run C.P w=.ok pl.toArray w:=by
    have hgen:∀(l:List Field) (pl:List (Nat×Nat)),l.mapM (fun f=>match C.P.info? f.type with|some i=>some (f.offset,i.size)|none=>none)=some pl→
      ((l.mapM fun f=>do pure (f.offset,←sizeOf f.type)):Sem (List (Nat×Nat))).run C.P w=.ok pl w:=by
     intro l
     induction l with
     |nil=>intro pl h;simp at h;subst h;simp
     |cons f l ih=>
      intro pl h
      simp only[List.mapM_cons] at h ⊢
      cases hi:C.P.info? f.type with
      |none=>simp[hi] at h
      |some i=>
       simp only[hi] at h
       cases hl:l.mapM (fun f=>match C.P.info? f.type with|some i=>some (f.offset,i.size)|none=>none) with
       |none=>simp[hl] at h
       |some pl'=>
        simp[hl] at h
        subst h
        have:=ih pl' hl
        simp only[Sem.run_bind,run_sizeOf hi,Result.andThen_ok,Sem.run_pure,this]
    rw[Array.mapM_eq_mapM_toList]
    have:=hgen fs.toList pl hpl
    simp only[Sem.run_map,this,Result.andThen_ok]
   simp only[execOp,hmap,Instr.build,Sem.run_bind,zeroValue,typeInfo,run_program,Result.andThen_ok,hz1,hz2,Sem.run_pure,run_underlying hfs,hplaces,hz3]
   simp only[List.getElem?_toArray] at hf ⊢
   simp[hf]
  ·cases hpl
end
end Go.Sl
namespace Go.Sl
open Go.RowKit (Below)
def ek (y:Nat→Value) (i:Nat) (v:Value):Nat→Value:=fun j=>if j=i then v else y j
def oD(y:Nat→Value)(i:Nat)(v:Value):ek y i v i=v:=by simp[ek]
def Bm{y:Nat→Value}{i j:Nat}{v:Value}(h:j≠i):ek y i v j=y j:=by simp[ek,h]
def QX (C:Ctx):= {Q:Exit→Act→World→Prop//∀ch E L a w,gr C E a→Inv C.w0 L w→C.X ch L→Q (.panic ch) a w}
def Step (C:Ctx) (ops:Array Oper) (o:Oper) (E:Env) (L:List ad) (R:Value→List ad→Prop):Prop:=
 ∀a w (K:Act→World→Prop) (Q:QX C),gr C E a→Inv C.w0 L w→(∀v L' w',R v L'→Inv C.w0 L' w'→K (a.put o.dst v) w')→
  (if Region.wanted o (yielded ops a.tmps) then o.wp C.P a w K Q.1 else K (a.put o.dst undef) w)
section
variable {C:Ctx} {ops:Array Oper} {E:Env} {L L':List ad} {R:Value→List ad→Prop} {d:Option Nat} {ty:TypeId} {pos:String} {aft:Array Edge} {op:Op} {v:Value}
def yf(h:lk C op ty E L R):Step C ops ⟨d,op,ty,pos,aft,none⟩ E L R:=fun a w K Q ha hi hK=>by
 rw[if_pos (by simp[Region.wanted])]
 exact h d pos aft none a w K Q.1 ha hi hK
def dm(h:cx C op ty E L v L')(hR:R v L'):Step C ops ⟨d,op,ty,pos,aft,none⟩ E L R:=
 yf (fun d pos aft g a w K Q ha hi hK=>h.x d pos aft g a w K Q ha hi (fun v' M w' ⟨e1,e2⟩ hi'=>hK v' M w' (by subst e1;subst e2;exact hR) hi'))
def eR{j:Nat}{want:Bool}(hg:kf ops E j=some want)(h:Step C ops ⟨d,op,ty,pos,aft,none⟩ E L R):Step C ops ⟨d,op,ty,pos,aft,some (j,want)⟩ E L R:=fun a w K Q ha hi hK=>by
 have hw:=kX (o:=⟨d,op,ty,pos,aft,some (j,want)⟩) ha hg rfl
 rw[if_pos (by rw[hw];simp)]
 have h1:=h a w K Q ha hi hK
 rw[if_pos (by simp[Region.wanted])] at h1
 exact h1
def RE{j:Nat}{want b:Bool}(hg:kf ops E j=some b)(hb:(b==want)=false)(hR:R undef L):Step C ops ⟨d,op,ty,pos,aft,some (j,want)⟩ E L R:=fun a w K Q ha hi hK=>by
 have hw:=kX (o:=⟨d,op,ty,pos,aft,some (j,want)⟩) ha hg rfl
 rw[if_neg (by rw[hw,hb];simp)]
 exact hK _ _ _ hR hi
end
def m0 (o:Oper):List Nat:=o.after.toList.filterMap fun e=>if Region.binds .any e then some e.on else none
structure eu where
 gC:List Nat
 jM:List Nat
 mX:List Nat
 lo:Nat
 hi:Nat
def mem (x:Nat):List Nat→Bool
 |[]=>false
 |y::l=>Nat.beq x y||mem x l
def mem_iff{x:Nat}:∀ {l:List Nat},mem x l=true↔x∈l
 |[]=>by simp[mem]
 |y::l=>by
  simp only[mem,Bool.or_eq_true,List.mem_cons,mem_iff (l:=l)]
  constructor
  ·rintro(h|h)
   ·exact .inl (Nat.eq_of_beq_eq_true h)
   ·exact .inr h
  ·rintro(h|h)
   ·exact .inl (by subst h;simp)
   ·exact .inr h
def fa (ps:List eu) (i:Nat):List Nat:=match ps[i]? with|some p=>p.gC|none=>[]
def eA (l:List Oper) (i:Nat):Option Nat:=match l[i]? with|some o=>o.dst|none=>none
def noSelect:Op→Bool
 |.select _ _=>false
 |_=>true
def I4 (ps:List eu):List Nat→Bool
 |[]=>true
 |c::r=>r.all (fun q=>mem c (fa ps q))&&I4 ps r
def Bq (C:Ctx) (l:List Oper) (ps:List eu) (ch:List Nat) (i:Nat):Bool:=
 match l[i]?,ps[i]? with
 |some o,some p=>
  noSelect o.op&&
  (m0 o).all (fun j=>Nat.blt j i)&&
  p.gC.all (fun j=>Nat.blt j i&&(mem j (m0 o)||(m0 o).any (fun k=>mem j (fa ps k))))&&
  p.jM.all (fun j=>mem j p.gC)&&
  p.mX.all (fun s=>(List.range l.length).all fun j=>match eA l j with|some t=> !(Nat.beq t s)||Nat.beq j i||mem i (fa ps j)|none=>true)&&
  (ch.take p.lo).all (fun c=>mem c p.gC)&&Nat.ble p.lo ch.length&&
  (match ch[p.hi]? with|some c=>Nat.beq c i||mem i (fa ps c)|none=>true)&&
  (match o.dst with
   |some t=>Nat.blt t C.n&&(List.range l.length).all (fun j=>Nat.beq j i||(match eA l j with|some u=> !(Nat.beq u t)|none=>true))
   |none=>true)&&
  (match o.guard with|some (j,_)=>mem j p.jM|none=>true)
 |_,_=>false
def ae0 (C:Ctx) (l:List Oper) (ps:List eu) (ch:List Nat):Bool:=
 (List.range l.length).all (Bq C l ps ch)&&I4 ps ch&&ch.all (fun c=>Nat.blt c l.length)&&
 (List.range ch.length).all (fun p=>match ch[p]? with|some c=>(match ps[c]? with|some q=>Nat.beq q.lo p&&Nat.beq q.hi p|none=>false)|none=>false)
def tT (l:List Oper) (E0:Env) (p:eu) (y:Nat→Value):Env:=
 (p.jM.filterMap fun j=>match eA l j with|some t=>some (t,y j)|none=>none)++p.mX.filterMap fun s=>match E0.get s with|some v=>some (s,v)|none=>none
def vC (l:List Oper) (y:Nat→Value):Nat→Env→Env
 |0,E=>E
 |i+1,E=>match eA l i with|some t=>(t,y i)::vC l y i E|none=>vC l y i E
def Obl (C:Ctx) (l:List Oper) (E0:Env) (ps:List eu) (ch:List Nat) (Φ:Nat→(Nat→Value)→Prop) (Lk:Nat→(Nat→Value)→List ad) (At:Nat→(Nat→Value)→List ad) (AP:List ad→Prop) (i:Nat):Prop:=
 ∀o p,l[i]?=some o→ps[i]?=some p→∀y k A,AP A→k≤ch.length→p.lo≤k→k≤p.hi→(∀j∈p.gC,Φ j y)→(∀j∈p.gC,∀B∈At j y,B∈A)→
  Step C l.toArray o (tT l E0 p y) (Lk k y++A) (fun v L'=>∃A',AP A'∧Φ i (ek y i v)∧L'.Perm (Lk (if mem i ch then k+1 else k) (ek y i v)++A')∧(∀B∈A,B∈A')∧(∀B∈At i (ek y i v),B∈A'))
def jN(m j:Nat):(Array.replicate m false).getD j false=false:=by
 rcases Nat.lt_or_ge j m with h|h
 ·simp[h]
 ·simp[h]
def s7{listed:Array Bool}{i:Nat}(h:listed.getD i true=false):listed.getD i false=false:=by
 rcases Nat.lt_or_ge i listed.size with h'|h'
 ·simp[h'] at h ⊢;exact h
 ·simp[Array.getElem?_eq_none h'] at h
def Env.get_mem{d:Nat}{v:Value}:∀ {E:Env},E.get d=some v→(d,v)∈E
 |[],h=>by cases h
 |(k,u)::E,h=>by
  rw[Env.jv] at h
  by_cases e:k=d
  ·subst e;simp at h;simp[h]
  ·simp only[e,if_false] at h;exact List.mem_cons_of_mem _ (Env.get_mem h)
section
variable {C:Ctx} {l:List Oper} {E0:Env} {ps:List eu} {ch:List Nat} {Φ:Nat→(Nat→Value)→Prop} {Lk At:Nat→(Nat→Value)→List ad} {AP:List ad→Prop}
def done (listed:Array Bool) (j:Nat):Prop:=listed.getD j false=true
structure aeQ (C:Ctx) (l:List Oper) (E0:Env) (ps:List eu) (ch:List Nat) (Φ:Nat→(Nat→Value)→Prop) (Lk At:Nat→(Nat→Value)→List ad) (AP:List ad→Prop)
  (listed:Array Bool) (a:Act) (w:World) (y:Nat→Value) (A:List ad) (k:Nat):Prop where
 size:listed.size=l.length
 Aa:∀i,done listed i→∀j∈fa ps i,done listed j
 defers:a.defers=C.D
 wi:a.tmps.size=C.n
 Fq:∀i,done listed i→∀t,eA l i=some t→a.tmps[t]?=some (y i)
 Fz:∀s v,E0.get s=some v→(∀j,done listed j→eA l j≠some s)→a.tmps[s]?=some v
 Nu:∀i,done listed i→Φ i y
 ats:∀i,done listed i→∀B∈At i y,B∈A
 kle:k≤ch.length
 ap:AP A
 kdone:∀q c,q<k→ch[q]?=some c→done listed c
 kun:∀q c,k≤q→ch[q]?=some c→¬done listed c
 inv:Inv C.w0 (Lk k y++A) w
structure zK (C:Ctx) (l:List Oper) (ps:List eu) (ch:List Nat) (i:Nat) (o:Oper) (p:eu):Prop where
 sel:∀cs b,o.op≠.select cs b
 Xs:∀j∈m0 o,j<i
 gC:∀j∈p.gC,j<i∧(j∈m0 o∨∃k∈m0 o,j∈fa ps k)
 jM:∀j∈p.jM,j∈p.gC
 mX:∀s∈p.mX,∀j,eA l j=some s→j=i∨i∈fa ps j
 lo:∀c∈ch.take p.lo,c∈p.gC
 aeP:p.lo≤ch.length
 hi:∀c,ch[p.hi]?=some c→c=i∨i∈fa ps c
 dst:∀t,o.dst=some t→t<C.n∧∀j,j≠i→eA l j≠some t
 guard:∀j w,o.guard=some (j,w)→j∈p.jM
def uV{i t:Nat}(h:eA l i=some t):i<l.length:=by
 unfold eA at h
 split at h
 ·rename_i o ho;exact(List.getElem?_eq_some_iff.1 ho).1
 ·cases h
def zf{i:Nat}(h:Bq C l ps ch i=true):∃o p,l[i]?=some o∧ps[i]?=some p∧zK C l ps ch i o p:=by
 unfold Bq at h
 split at h
 ·rename_i o p ho hp
  simp only[Bool.and_eq_true] at h
  obtain⟨⟨⟨⟨⟨⟨⟨⟨⟨h1,h2⟩,h3⟩,h4⟩,h5⟩,h6⟩,h7⟩,h8⟩,h9⟩,h10⟩:=h
  refine⟨o,p,ho,hp,?_,?_,?_,?_,?_,?_,Nat.le_of_ble_eq_true h7,?_,?_,?_⟩
  ·intro cs b e;rw[e] at h1;cases h1
  ·intro j hj;exact fY (List.all_eq_true.1 h2 j hj)
  ·intro j hj
   have:=List.all_eq_true.1 h3 j hj
   simp only[Bool.and_eq_true,Bool.or_eq_true] at this
   refine⟨fY this.1,?_⟩
   rcases this.2 with h|h
   ·exact .inl (mem_iff.1 h)
   ·obtain⟨k,hk,hk2⟩:=List.any_eq_true.1 h
    exact .inr ⟨k,hk,mem_iff.1 hk2⟩
  ·intro j hj;exact mem_iff.1 (List.all_eq_true.1 h4 j hj)
  ·intro s hs j hj
   have:=List.all_eq_true.1 (List.all_eq_true.1 h5 s hs) j (List.mem_range.2 (uV hj))
   simp only[hj,Bool.or_eq_true] at this
   rcases this with(h|h)|h
   ·simp at h
   ·exact .inl (Nat.eq_of_beq_eq_true h)
   ·exact .inr (mem_iff.1 h)
  ·intro c hc;exact mem_iff.1 (List.all_eq_true.1 h6 c hc)
  ·intro c hc
   rw[hc] at h8
   simp only[Bool.or_eq_true] at h8
   rcases h8 with h|h
   ·exact .inl (Nat.eq_of_beq_eq_true h)
   ·exact .inr (mem_iff.1 h)
  ·intro t ht
   rw[ht] at h9
   simp only[Bool.and_eq_true] at h9
   refine⟨fY h9.1,fun j hj e=>?_⟩
   have:=List.all_eq_true.1 h9.2 j (List.mem_range.2 (uV e))
   simp only[e,Bool.or_eq_true] at this
   rcases this with h|h
   ·exact hj (Nat.eq_of_beq_eq_true h)
   ·simp at h
  ·intro j w hg
   rw[hg] at h10
   exact mem_iff.1 h10
 ·cases h
def CB{i:Nat}{o:Oper}{listed:Array Bool}(ho:l[i]?=some o)(hr:i∈Region.ready .any l.toArray listed):listed.getD i true=false∧∀j∈m0 o,done listed j:=by
 obtain⟨h1,o',ho',hall⟩:=mem_ready.1 hr
 have:o'=o:=by
  have h2:l[i]?=some o':=by simpa using ho'
  rw[h2] at ho;exact Option.some.inj ho
 subst this
 refine⟨h1,fun j hj=>?_⟩
 obtain⟨e,he,hb⟩:=List.mem_filterMap.1 hj
 split at hb
 ·rename_i hbind
  cases hb
  exact hall e (by simpa using he) hbind
 ·cases hb
end
end Go.Sl
namespace Go.Sl
open Go.RowKit (Below)
def aeT (l:List Oper) (E0:Env) (p:eu) (V:List Value):Env:=
  (p.jM.filterMap fun j=>match eA l j with|some t=>(match V[j]? with|some v=>some (t,v)|none=>none)|none=>none)++p.mX.filterMap fun s=>match E0.get s with|some v=>some (s,v)|none=>none
def Ko (l:List Oper) (V:List Value):Nat→Env→Env
  |0,E=>E
  |i+1,E=>match eA l i with|some t=>(match V[i]? with|some v=>(t,v)::Ko l V i E|none=>Ko l V i E)|none=>Ko l V i E
section
variable {C:Ctx} {E0:Env} {Q:QT} {L:List ad}
def ab9 (l:List Oper) (E0:Env) (p:eu) (i:Nat) (acc:List Value):Env:=
  (p.jM.filterMap fun j=>match eA l j with|some t=>(match acc[i-1-j]? with|some v=>some (t,v)|none=>none)|none=>none)++p.mX.filterMap fun s=>match E0.get s with|some v=>some (s,v)|none=>none
def Ki (l:List Oper) (n:Nat) (acc:List Value):Nat→Env→Env
  |0,E=>E
  |i+1,E=>match eA l i with|some t=>(match acc[n-1-i]? with|some v=>(t,v)::Ki l n acc i E|none=>Ki l n acc i E)|none=>Ki l n acc i E
def OwA (C:Ctx) (l:List Oper) (E0:Env) (ch:List Nat) (Ls:List (List ad)):Nat→List Value→List Oper→List eu→(List Value→Prop)→Prop
  |_,acc,[],[],K=>K acc
  |i,acc,o::os,p::ps,K=>∃v,(∀k L,p.lo≤k→k≤p.hi→Ls[k]?=some L→Step C l.toArray o (ab9 l E0 p i acc) L (fun v' L'=>v'=v∧(if mem i ch then∃L'',Ls[k+1]?=some L''∧L'.Perm L'' else L'.Perm L)))∧OwA C l E0 ch Ls (i+1) (v::acc) os ps K
  |_,_,_,_,_=>False
section
variable {l:List Oper} {ch:List Nat} {Ls:List (List ad)} {i:Nat} {acc:List Value} {o:Oper} {os:List Oper} {ps:List eu} {v:Value} {K:List Value→Prop}
end
end
end Go.Sl
namespace Go.Sl
open Go.RowKit (Below)
def ay{A:ad}{L:List ad}:A∈A::L:=.head _
def cX{A B:ad}{L:List ad}:A∈B::A::L:=.tail _ (.head _)
def dz{A B B1:ad}{L:List ad}:A∈B::B1::A::L:=.tail _ cX
def fX{A B B1 B2:ad}{L:List ad}:A∈B::B1::B2::A::L:=.tail _ dz
def ic{A B B1 B2 B3:ad}{L:List ad}:A∈B::B1::B2::B3::A::L:=.tail _ fX
def wW{A B B1 B2 B3 B4:ad}{L:List ad}:A∈B::B1::B2::B3::B4::A::L:=.tail _ ic
def HY{A B B1 B2 B3 B4 B5:ad}{L:List ad}:A∈B::B1::B2::B3::B4::B5::A::L:=.tail _ wW
def MI{A B B1 B2 B3 B4 B5 B6:ad}{L:List ad}:A∈B::B1::B2::B3::B4::B5::B6::A::L:=.tail _ HY
def dJ{A:ad}{L:List ad}:ij (A::L) A L:=.head
def ar{A B:ad}{L:List ad}:ij (B::A::L) A (B::L):=.tail .head
def aL{A B B1:ad}{L:List ad}:ij (B::B1::A::L) A (B::B1::L):=.tail ar
def cB{A B B1 B2:ad}{L:List ad}:ij (B::B1::B2::A::L) A (B::B1::B2::L):=.tail aL
def gW{A B B1 B2 B3:ad}{L:List ad}:ij (B::B1::B2::B3::A::L) A (B::B1::B2::B3::L):=.tail cB
def jX{A B B1 B2 B3 B4:ad}{L:List ad}:ij (B::B1::B2::B3::B4::A::L) A (B::B1::B2::B3::B4::L):=.tail gW
def nQ{A B B1 B2 B3 B4 B5:ad}{L:List ad}:ij (B::B1::B2::B3::B4::B5::A::L) A (B::B1::B2::B3::B4::B5::L):=.tail jX
def IG{A B B1 B2 B3 B4 B5 B6:ad}{L:List ad}:ij (B::B1::B2::B3::B4::B5::B6::A::L) A (B::B1::B2::B3::B4::B5::B6::L):=.tail nQ
def ft{A A':ad}{L:List ad}:jU (A::L) A A' (A'::L):=.head
def qn{A A' B:ad}{L:List ad}:jU (B::A::L) A A' (B::A'::L):=.tail .head
def xr{A A' B B1:ad}{L:List ad}:jU (B::B1::A::L) A A' (B::B1::A'::L):=.tail qn
def Md{A A' B B1 B2:ad}{L:List ad}:jU (B::B1::B2::A::L) A A' (B::B1::B2::A'::L):=.tail xr
def pp4{A A' B B1 B2 B3:ad}{L:List ad}:jU (B::B1::B2::B3::A::L) A A' (B::B1::B2::B3::A'::L):=.tail Md
def G7{A A' B B1 B2 B3 B4:ad}{L:List ad}:jU (B::B1::B2::B3::B4::A::L) A A' (B::B1::B2::B3::B4::A'::L):=.tail pp4
def Ss{A A' B B1 B2 B3 B4 B5:ad}{L:List ad}:jU (B::B1::B2::B3::B4::B5::A::L) A A' (B::B1::B2::B3::B4::B5::A'::L):=.tail G7
def pp7{A A' B B1 B2 B3 B4 B5 B6:ad}{L:List ad}:jU (B::B1::B2::B3::B4::B5::B6::A::L) A A' (B::B1::B2::B3::B4::B5::B6::A'::L):=.tail Ss
def aj{L:List ad}:Drop L L:=.refl
def bg{A:ad}{L:List ad}:Drop (A::L) L:=.skip .refl
def dC{A B:ad}{L:List ad}:Drop (A::B::L) L:=.skip bg
def iW{A B B1:ad}{L:List ad}:Drop (A::B::B1::L) L:=.skip dC
def gF{A B B1 B2:ad}{L:List ad}:Drop (A::B::B1::B2::L) L:=.skip iW
def NI{A B B1 B2 B3:ad}{L:List ad}:Drop (A::B::B1::B2::B3::L) L:=.skip gF
def GK{A B B1 B2 B3 B4:ad}{L:List ad}:Drop (A::B::B1::B2::B3::B4::L) L:=.skip NI
def ML{A B B1 B2 B3 B4 B5:ad}{L:List ad}:Drop (A::B::B1::B2::B3::B4::B5::L) L:=.skip GK
def Ng{A B B1 B2 B3 B4 B5 B6:ad}{L:List ad}:Drop (A::B::B1::B2::B3::B4::B5::B6::L) L:=.skip ML
section
variable {C:Ctx} {Q:QT} {E:Env} {L F:List ad}
def bA{c:Code}{M:List ad}(h:Sub L M)(k:Wp C c Q E M):Wp C c Q E L:=fun a w ha hi=>k a w ha (h _ _ hi)
def Yd{ops:Array Oper}{rest:List Oper}{M:List ad}(h:Sub L M)(k:dr C ops rest Q E M):dr C ops rest Q E L:=fun a w ha hi=>k a w ha (h _ _ hi)
def Jn {ι:Type} (T:ι→Env) (G:ι→List ad) (K:ι→Prop) (E:Env) (L:List ad):Prop:=∃i,K i∧Le (T i) E∧Sub L (G i)
def oi{ι:Type}{c:Code}(T:ι→Env)(G:ι→List ad)(K:ι→Prop)(μ:ι→Nat)(h0:Jn T G K E L)
  (h:∀i,K i→Wp C c (jB (fun E' L'=>Jn T G (fun j=>K j∧μ j<μ i) E' L') Q) (T i) (G i)):Wp C (.loop c) Q E L:=by
 obtain⟨i0,k0,e0,l0⟩:=h0
 refine bA l0 (bW (T i0) e0 ?_)
 refine VD (fun m E L=>∃i,K i∧μ i=m∧E=T i∧L=G i) (μ i0) ⟨i0,k0,rfl,rfl,rfl⟩ ?_
 rintro m E L ⟨i,ki,rfl,rfl,rfl⟩
 intro a w ha hi
 refine Code.wp_mono ?_ (h i ki a w ha hi)
 rintro e a' w' ⟨E',L',h1,h2,h3⟩
 cases e with
 |normal=>
  obtain⟨j,⟨kj,hlt⟩,hE,hL⟩:=h3
  exact⟨T j,G j,h1.le hE,hL _ _ h2,μ j,hlt,j,kj,rfl,rfl,rfl⟩
 |exit _=>exact⟨E',L',h1,h2,h3⟩
 |goto _=>exact⟨E',L',h1,h2,h3⟩
 |ret=>exact⟨E',L',h1,h2,h3⟩
 |panic _=>exact⟨E',L',h1,h2,h3⟩
 |outgrown=>exact⟨E',L',h1,h2,h3⟩
def DP{ι:Type}{x y:Code}(T:ι→Env)(G:ι→List ad)(K:ι→Prop)(h:Wp C x (jB (fun E' L'=>Jn T G K E' L') Q) E L)
  (k:∀i,K i→Wp C y Q (T i) (G i)):Wp C (.seq x y) Q E L:=by
 refine ka (h.mono ?_)
 intro e E' L' hq
 cases e with
 |normal=>
  obtain⟨i,ki,hE,hL⟩:=hq
  exact bA hL (bW _ hE (k i ki))
 |exit _=>exact hq
 |goto _=>exact hq
 |ret=>exact hq
 |panic _=>exact hq
 |outgrown=>exact hq
def J1 {α0:Type} (T:α0→Env) (G:α0→List ad) (K:α0→Prop) (E:Env) (L:List ad):Prop:=∃(y0:α0),K y0∧Le (T y0) E∧Sub L (G y0)
def J1.jn{α0:Type}{T:α0→Env}{G:α0→List ad}{K:α0→Prop}{E:Env}{L:List ad}(h:J1 T G K E L):Jn (fun i:α0=>T i) (fun i:α0=>G i) (fun i:α0=>K i) E L:=
 let⟨y0,h1,h2,h3⟩:=h;⟨y0,h1,h2,h3⟩
def i1{α0:Type}{T:α0→Env}{G:α0→List ad}{K:α0→Prop}{E:Env}{L:List ad}(y0:α0)(h1:K y0)(h2:Le (T y0) E)(h3:Sub L (G y0)):J1 T G K E L:=⟨y0,h1,h2,h3⟩
def j1{α0:Type}{T:α0→Env}{G:α0→List ad}{K:α0→Prop}{E:Env}{L:List ad}(y0:α0)(h1:K y0)(h2:Le (T y0) E)(h3:Sub L (G y0)):jB (fun E' L'=>J1 T G K E' L') Q .normal E L:=⟨y0,h1,h2,h3⟩
def cF{α0:Type}{c:Code}(T:α0→Env)(G:α0→List ad)(K:α0→Prop)(μ:α0→Nat)(h0:J1 T G K E L)
  (h:∀(x0:α0),K x0→Wp C c (jB (fun E' L'=>J1 T G (fun y0=>K y0∧μ y0<μ x0) E' L') Q) (T x0) (G x0)):Wp C (.loop c) Q E L:=
 oi (fun i:α0=>T i) (fun i:α0=>G i) (fun i:α0=>K i) (fun i:α0=>μ i) h0.jn fun i ki=>(h i ki).mono fun e E' L' hq=>by
  cases e with
  |normal=>exact J1.jn hq
  |exit _=>exact hq
  |goto _=>exact hq
  |ret=>exact hq
  |panic _=>exact hq
  |outgrown=>exact hq
def gv{α0:Type}{x y:Code}(T:α0→Env)(G:α0→List ad)(K:α0→Prop)(h:Wp C x (jB (fun E' L'=>J1 T G K E' L') Q) E L)
  (k:∀(x0:α0),K x0→Wp C y Q (T x0) (G x0)):Wp C (.seq x y) Q E L:=
 DP (fun i:α0=>T i) (fun i:α0=>G i) (fun i:α0=>K i) (h.mono fun e E' L' hq=>by
  cases e with
  |normal=>exact J1.jn hq
  |exit _=>exact hq
  |goto _=>exact hq
  |ret=>exact hq
  |panic _=>exact hq
  |outgrown=>exact hq) fun i ki=>k i ki
def J2 {α0 α1:Type} (T:α0→α1→Env) (G:α0→α1→List ad) (K:α0→α1→Prop) (E:Env) (L:List ad):Prop:=∃(y0:α0) (y1:α1),K y0 y1∧Le (T y0 y1) E∧Sub L (G y0 y1)
def J2.jn{α0 α1:Type}{T:α0→α1→Env}{G:α0→α1→List ad}{K:α0→α1→Prop}{E:Env}{L:List ad}(h:J2 T G K E L):Jn (fun i:α0×α1=>T i.1 i.2) (fun i:α0×α1=>G i.1 i.2) (fun i:α0×α1=>K i.1 i.2) E L:=
 let⟨y0,y1,h1,h2,h3⟩:=h;⟨⟨y0,y1⟩,h1,h2,h3⟩
def i2{α0 α1:Type}{T:α0→α1→Env}{G:α0→α1→List ad}{K:α0→α1→Prop}{E:Env}{L:List ad}(y0:α0)(y1:α1)(h1:K y0 y1)(h2:Le (T y0 y1) E)(h3:Sub L (G y0 y1)):J2 T G K E L:=⟨y0,y1,h1,h2,h3⟩
def j2{α0 α1:Type}{T:α0→α1→Env}{G:α0→α1→List ad}{K:α0→α1→Prop}{E:Env}{L:List ad}(y0:α0)(y1:α1)(h1:K y0 y1)(h2:Le (T y0 y1) E)(h3:Sub L (G y0 y1)):jB (fun E' L'=>J2 T G K E' L') Q .normal E L:=⟨y0,y1,h1,h2,h3⟩
def gx{α0 α1:Type}{c:Code}(T:α0→α1→Env)(G:α0→α1→List ad)(K:α0→α1→Prop)(μ:α0→α1→Nat)(h0:J2 T G K E L)
  (h:∀(x0:α0) (x1:α1),K x0 x1→Wp C c (jB (fun E' L'=>J2 T G (fun y0 y1=>K y0 y1∧μ y0 y1<μ x0 x1) E' L') Q) (T x0 x1) (G x0 x1)):Wp C (.loop c) Q E L:=
 oi (fun i:α0×α1=>T i.1 i.2) (fun i:α0×α1=>G i.1 i.2) (fun i:α0×α1=>K i.1 i.2) (fun i:α0×α1=>μ i.1 i.2) h0.jn fun i ki=>(h i.1 i.2 ki).mono fun e E' L' hq=>by
  cases e with
  |normal=>exact J2.jn hq
  |exit _=>exact hq
  |goto _=>exact hq
  |ret=>exact hq
  |panic _=>exact hq
  |outgrown=>exact hq
def yi{α0 α1:Type}{x y:Code}(T:α0→α1→Env)(G:α0→α1→List ad)(K:α0→α1→Prop)(h:Wp C x (jB (fun E' L'=>J2 T G K E' L') Q) E L)
  (k:∀(x0:α0) (x1:α1),K x0 x1→Wp C y Q (T x0 x1) (G x0 x1)):Wp C (.seq x y) Q E L:=
 DP (fun i:α0×α1=>T i.1 i.2) (fun i:α0×α1=>G i.1 i.2) (fun i:α0×α1=>K i.1 i.2) (h.mono fun e E' L' hq=>by
  cases e with
  |normal=>exact J2.jn hq
  |exit _=>exact hq
  |goto _=>exact hq
  |ret=>exact hq
  |panic _=>exact hq
  |outgrown=>exact hq) fun i ki=>k i.1 i.2 ki
def J3 {α0 α1 α2:Type} (T:α0→α1→α2→Env) (G:α0→α1→α2→List ad) (K:α0→α1→α2→Prop) (E:Env) (L:List ad):Prop:=∃(y0:α0) (y1:α1) (y2:α2),K y0 y1 y2∧Le (T y0 y1 y2) E∧Sub L (G y0 y1 y2)
def J3.jn{α0 α1 α2:Type}{T:α0→α1→α2→Env}{G:α0→α1→α2→List ad}{K:α0→α1→α2→Prop}{E:Env}{L:List ad}(h:J3 T G K E L):Jn (fun i:α0×α1×α2=>T i.1 i.2.1 i.2.2) (fun i:α0×α1×α2=>G i.1 i.2.1 i.2.2) (fun i:α0×α1×α2=>K i.1 i.2.1 i.2.2) E L:=
 let⟨y0,y1,y2,h1,h2,h3⟩:=h;⟨⟨y0,y1,y2⟩,h1,h2,h3⟩
def i3{α0 α1 α2:Type}{T:α0→α1→α2→Env}{G:α0→α1→α2→List ad}{K:α0→α1→α2→Prop}{E:Env}{L:List ad}(y0:α0)(y1:α1)(y2:α2)(h1:K y0 y1 y2)(h2:Le (T y0 y1 y2) E)(h3:Sub L (G y0 y1 y2)):J3 T G K E L:=⟨y0,y1,y2,h1,h2,h3⟩
def j3{α0 α1 α2:Type}{T:α0→α1→α2→Env}{G:α0→α1→α2→List ad}{K:α0→α1→α2→Prop}{E:Env}{L:List ad}(y0:α0)(y1:α1)(y2:α2)(h1:K y0 y1 y2)(h2:Le (T y0 y1 y2) E)(h3:Sub L (G y0 y1 y2)):jB (fun E' L'=>J3 T G K E' L') Q .normal E L:=⟨y0,y1,y2,h1,h2,h3⟩
def dP{α0 α1 α2:Type}{c:Code}(T:α0→α1→α2→Env)(G:α0→α1→α2→List ad)(K:α0→α1→α2→Prop)(μ:α0→α1→α2→Nat)(h0:J3 T G K E L)
  (h:∀(x0:α0) (x1:α1) (x2:α2),K x0 x1 x2→Wp C c (jB (fun E' L'=>J3 T G (fun y0 y1 y2=>K y0 y1 y2∧μ y0 y1 y2<μ x0 x1 x2) E' L') Q) (T x0 x1 x2) (G x0 x1 x2)):Wp C (.loop c) Q E L:=
 oi (fun i:α0×α1×α2=>T i.1 i.2.1 i.2.2) (fun i:α0×α1×α2=>G i.1 i.2.1 i.2.2) (fun i:α0×α1×α2=>K i.1 i.2.1 i.2.2) (fun i:α0×α1×α2=>μ i.1 i.2.1 i.2.2) h0.jn fun i ki=>(h i.1 i.2.1 i.2.2 ki).mono fun e E' L' hq=>by
  cases e with
  |normal=>exact J3.jn hq
  |exit _=>exact hq
  |goto _=>exact hq
  |ret=>exact hq
  |panic _=>exact hq
  |outgrown=>exact hq
def J4 {α0 α1 α2 α3:Type} (T:α0→α1→α2→α3→Env) (G:α0→α1→α2→α3→List ad) (K:α0→α1→α2→α3→Prop) (E:Env) (L:List ad):Prop:=∃(y0:α0) (y1:α1) (y2:α2) (y3:α3),K y0 y1 y2 y3∧Le (T y0 y1 y2 y3) E∧Sub L (G y0 y1 y2 y3)
def J4.jn{α0 α1 α2 α3:Type}{T:α0→α1→α2→α3→Env}{G:α0→α1→α2→α3→List ad}{K:α0→α1→α2→α3→Prop}{E:Env}{L:List ad}(h:J4 T G K E L):Jn (fun i:α0×α1×α2×α3=>T i.1 i.2.1 i.2.2.1 i.2.2.2) (fun i:α0×α1×α2×α3=>G i.1 i.2.1 i.2.2.1 i.2.2.2) (fun i:α0×α1×α2×α3=>K i.1 i.2.1 i.2.2.1 i.2.2.2) E L:=
 let⟨y0,y1,y2,y3,h1,h2,h3⟩:=h;⟨⟨y0,y1,y2,y3⟩,h1,h2,h3⟩
def i4{α0 α1 α2 α3:Type}{T:α0→α1→α2→α3→Env}{G:α0→α1→α2→α3→List ad}{K:α0→α1→α2→α3→Prop}{E:Env}{L:List ad}(y0:α0)(y1:α1)(y2:α2)(y3:α3)(h1:K y0 y1 y2 y3)(h2:Le (T y0 y1 y2 y3) E)(h3:Sub L (G y0 y1 y2 y3)):J4 T G K E L:=⟨y0,y1,y2,y3,h1,h2,h3⟩
def j4{α0 α1 α2 α3:Type}{T:α0→α1→α2→α3→Env}{G:α0→α1→α2→α3→List ad}{K:α0→α1→α2→α3→Prop}{E:Env}{L:List ad}(y0:α0)(y1:α1)(y2:α2)(y3:α3)(h1:K y0 y1 y2 y3)(h2:Le (T y0 y1 y2 y3) E)(h3:Sub L (G y0 y1 y2 y3)):jB (fun E' L'=>J4 T G K E' L') Q .normal E L:=⟨y0,y1,y2,y3,h1,h2,h3⟩
def uq{α0 α1 α2 α3:Type}{c:Code}(T:α0→α1→α2→α3→Env)(G:α0→α1→α2→α3→List ad)(K:α0→α1→α2→α3→Prop)(μ:α0→α1→α2→α3→Nat)(h0:J4 T G K E L)
  (h:∀(x0:α0) (x1:α1) (x2:α2) (x3:α3),K x0 x1 x2 x3→Wp C c (jB (fun E' L'=>J4 T G (fun y0 y1 y2 y3=>K y0 y1 y2 y3∧μ y0 y1 y2 y3<μ x0 x1 x2 x3) E' L') Q) (T x0 x1 x2 x3) (G x0 x1 x2 x3)):Wp C (.loop c) Q E L:=
 oi (fun i:α0×α1×α2×α3=>T i.1 i.2.1 i.2.2.1 i.2.2.2) (fun i:α0×α1×α2×α3=>G i.1 i.2.1 i.2.2.1 i.2.2.2) (fun i:α0×α1×α2×α3=>K i.1 i.2.1 i.2.2.1 i.2.2.2) (fun i:α0×α1×α2×α3=>μ i.1 i.2.1 i.2.2.1 i.2.2.2) h0.jn fun i ki=>(h i.1 i.2.1 i.2.2.1 i.2.2.2 ki).mono fun e E' L' hq=>by
  cases e with
  |normal=>exact J4.jn hq
  |exit _=>exact hq
  |goto _=>exact hq
  |ret=>exact hq
  |panic _=>exact hq
  |outgrown=>exact hq
def J5 {α0 α1 α2 α3 α4:Type} (T:α0→α1→α2→α3→α4→Env) (G:α0→α1→α2→α3→α4→List ad) (K:α0→α1→α2→α3→α4→Prop) (E:Env) (L:List ad):Prop:=∃(y0:α0) (y1:α1) (y2:α2) (y3:α3) (y4:α4),K y0 y1 y2 y3 y4∧Le (T y0 y1 y2 y3 y4) E∧Sub L (G y0 y1 y2 y3 y4)
def J5.jn{α0 α1 α2 α3 α4:Type}{T:α0→α1→α2→α3→α4→Env}{G:α0→α1→α2→α3→α4→List ad}{K:α0→α1→α2→α3→α4→Prop}{E:Env}{L:List ad}(h:J5 T G K E L):Jn (fun i:α0×α1×α2×α3×α4=>T i.1 i.2.1 i.2.2.1 i.2.2.2.1 i.2.2.2.2) (fun i:α0×α1×α2×α3×α4=>G i.1 i.2.1 i.2.2.1 i.2.2.2.1 i.2.2.2.2) (fun i:α0×α1×α2×α3×α4=>K i.1 i.2.1 i.2.2.1 i.2.2.2.1 i.2.2.2.2) E L:=
 let⟨y0,y1,y2,y3,y4,h1,h2,h3⟩:=h;⟨⟨y0,y1,y2,y3,y4⟩,h1,h2,h3⟩
def i5{α0 α1 α2 α3 α4:Type}{T:α0→α1→α2→α3→α4→Env}{G:α0→α1→α2→α3→α4→List ad}{K:α0→α1→α2→α3→α4→Prop}{E:Env}{L:List ad}(y0:α0)(y1:α1)(y2:α2)(y3:α3)(y4:α4)(h1:K y0 y1 y2 y3 y4)(h2:Le (T y0 y1 y2 y3 y4) E)(h3:Sub L (G y0 y1 y2 y3 y4)):J5 T G K E L:=⟨y0,y1,y2,y3,y4,h1,h2,h3⟩
def j5{α0 α1 α2 α3 α4:Type}{T:α0→α1→α2→α3→α4→Env}{G:α0→α1→α2→α3→α4→List ad}{K:α0→α1→α2→α3→α4→Prop}{E:Env}{L:List ad}(y0:α0)(y1:α1)(y2:α2)(y3:α3)(y4:α4)(h1:K y0 y1 y2 y3 y4)(h2:Le (T y0 y1 y2 y3 y4) E)(h3:Sub L (G y0 y1 y2 y3 y4)):jB (fun E' L'=>J5 T G K E' L') Q .normal E L:=⟨y0,y1,y2,y3,y4,h1,h2,h3⟩
def tZ{α0 α1 α2 α3 α4:Type}{c:Code}(T:α0→α1→α2→α3→α4→Env)(G:α0→α1→α2→α3→α4→List ad)(K:α0→α1→α2→α3→α4→Prop)(μ:α0→α1→α2→α3→α4→Nat)(h0:J5 T G K E L)
  (h:∀(x0:α0) (x1:α1) (x2:α2) (x3:α3) (x4:α4),K x0 x1 x2 x3 x4→Wp C c (jB (fun E' L'=>J5 T G (fun y0 y1 y2 y3 y4=>K y0 y1 y2 y3 y4∧μ y0 y1 y2 y3 y4<μ x0 x1 x2 x3 x4) E' L') Q) (T x0 x1 x2 x3 x4) (G x0 x1 x2 x3 x4)):Wp C (.loop c) Q E L:=
 oi (fun i:α0×α1×α2×α3×α4=>T i.1 i.2.1 i.2.2.1 i.2.2.2.1 i.2.2.2.2) (fun i:α0×α1×α2×α3×α4=>G i.1 i.2.1 i.2.2.1 i.2.2.2.1 i.2.2.2.2) (fun i:α0×α1×α2×α3×α4=>K i.1 i.2.1 i.2.2.1 i.2.2.2.1 i.2.2.2.2) (fun i:α0×α1×α2×α3×α4=>μ i.1 i.2.1 i.2.2.1 i.2.2.2.1 i.2.2.2.2) h0.jn fun i ki=>(h i.1 i.2.1 i.2.2.1 i.2.2.2.1 i.2.2.2.2 ki).mono fun e E' L' hq=>by
  cases e with
  |normal=>exact J5.jn hq
  |exit _=>exact hq
  |goto _=>exact hq
  |ret=>exact hq
  |panic _=>exact hq
  |outgrown=>exact hq
def J6 {α0 α1 α2 α3 α4 α5:Type} (T:α0→α1→α2→α3→α4→α5→Env) (G:α0→α1→α2→α3→α4→α5→List ad) (K:α0→α1→α2→α3→α4→α5→Prop) (E:Env) (L:List ad):Prop:=∃(y0:α0) (y1:α1) (y2:α2) (y3:α3) (y4:α4) (y5:α5),K y0 y1 y2 y3 y4 y5∧Le (T y0 y1 y2 y3 y4 y5) E∧Sub L (G y0 y1 y2 y3 y4 y5)
def J7 {α0 α1 α2 α3 α4 α5 α6:Type} (T:α0→α1→α2→α3→α4→α5→α6→Env) (G:α0→α1→α2→α3→α4→α5→α6→List ad) (K:α0→α1→α2→α3→α4→α5→α6→Prop) (E:Env) (L:List ad):Prop:=∃(y0:α0) (y1:α1) (y2:α2) (y3:α3) (y4:α4) (y5:α5) (y6:α6),K y0 y1 y2 y3 y4 y5 y6∧Le (T y0 y1 y2 y3 y4 y5 y6) E∧Sub L (G y0 y1 y2 y3 y4 y5 y6)
def J7.jn{α0 α1 α2 α3 α4 α5 α6:Type}{T:α0→α1→α2→α3→α4→α5→α6→Env}{G:α0→α1→α2→α3→α4→α5→α6→List ad}{K:α0→α1→α2→α3→α4→α5→α6→Prop}{E:Env}{L:List ad}(h:J7 T G K E L):Jn (fun i:α0×α1×α2×α3×α4×α5×α6=>T i.1 i.2.1 i.2.2.1 i.2.2.2.1 i.2.2.2.2.1 i.2.2.2.2.2.1 i.2.2.2.2.2.2) (fun i:α0×α1×α2×α3×α4×α5×α6=>G i.1 i.2.1 i.2.2.1 i.2.2.2.1 i.2.2.2.2.1 i.2.2.2.2.2.1 i.2.2.2.2.2.2) (fun i:α0×α1×α2×α3×α4×α5×α6=>K i.1 i.2.1 i.2.2.1 i.2.2.2.1 i.2.2.2.2.1 i.2.2.2.2.2.1 i.2.2.2.2.2.2) E L:=
 let⟨y0,y1,y2,y3,y4,y5,y6,h1,h2,h3⟩:=h;⟨⟨y0,y1,y2,y3,y4,y5,y6⟩,h1,h2,h3⟩
def i7{α0 α1 α2 α3 α4 α5 α6:Type}{T:α0→α1→α2→α3→α4→α5→α6→Env}{G:α0→α1→α2→α3→α4→α5→α6→List ad}{K:α0→α1→α2→α3→α4→α5→α6→Prop}{E:Env}{L:List ad}(y0:α0)(y1:α1)(y2:α2)(y3:α3)(y4:α4)(y5:α5)(y6:α6)(h1:K y0 y1 y2 y3 y4 y5 y6)(h2:Le (T y0 y1 y2 y3 y4 y5 y6) E)(h3:Sub L (G y0 y1 y2 y3 y4 y5 y6)):J7 T G K E L:=⟨y0,y1,y2,y3,y4,y5,y6,h1,h2,h3⟩
def j7{α0 α1 α2 α3 α4 α5 α6:Type}{T:α0→α1→α2→α3→α4→α5→α6→Env}{G:α0→α1→α2→α3→α4→α5→α6→List ad}{K:α0→α1→α2→α3→α4→α5→α6→Prop}{E:Env}{L:List ad}(y0:α0)(y1:α1)(y2:α2)(y3:α3)(y4:α4)(y5:α5)(y6:α6)(h1:K y0 y1 y2 y3 y4 y5 y6)(h2:Le (T y0 y1 y2 y3 y4 y5 y6) E)(h3:Sub L (G y0 y1 y2 y3 y4 y5 y6)):jB (fun E' L'=>J7 T G K E' L') Q .normal E L:=⟨y0,y1,y2,y3,y4,y5,y6,h1,h2,h3⟩
def Dg{α0 α1 α2 α3 α4 α5 α6:Type}{c:Code}(T:α0→α1→α2→α3→α4→α5→α6→Env)(G:α0→α1→α2→α3→α4→α5→α6→List ad)(K:α0→α1→α2→α3→α4→α5→α6→Prop)(μ:α0→α1→α2→α3→α4→α5→α6→Nat)(h0:J7 T G K E L)
  (h:∀(x0:α0) (x1:α1) (x2:α2) (x3:α3) (x4:α4) (x5:α5) (x6:α6),K x0 x1 x2 x3 x4 x5 x6→Wp C c (jB (fun E' L'=>J7 T G (fun y0 y1 y2 y3 y4 y5 y6=>K y0 y1 y2 y3 y4 y5 y6∧μ y0 y1 y2 y3 y4 y5 y6<μ x0 x1 x2 x3 x4 x5 x6) E' L') Q) (T x0 x1 x2 x3 x4 x5 x6) (G x0 x1 x2 x3 x4 x5 x6)):Wp C (.loop c) Q E L:=
 oi (fun i:α0×α1×α2×α3×α4×α5×α6=>T i.1 i.2.1 i.2.2.1 i.2.2.2.1 i.2.2.2.2.1 i.2.2.2.2.2.1 i.2.2.2.2.2.2) (fun i:α0×α1×α2×α3×α4×α5×α6=>G i.1 i.2.1 i.2.2.1 i.2.2.2.1 i.2.2.2.2.1 i.2.2.2.2.2.1 i.2.2.2.2.2.2) (fun i:α0×α1×α2×α3×α4×α5×α6=>K i.1 i.2.1 i.2.2.1 i.2.2.2.1 i.2.2.2.2.1 i.2.2.2.2.2.1 i.2.2.2.2.2.2) (fun i:α0×α1×α2×α3×α4×α5×α6=>μ i.1 i.2.1 i.2.2.1 i.2.2.2.1 i.2.2.2.2.1 i.2.2.2.2.2.1 i.2.2.2.2.2.2) h0.jn fun i ki=>(h i.1 i.2.1 i.2.2.1 i.2.2.2.1 i.2.2.2.2.1 i.2.2.2.2.2.1 i.2.2.2.2.2.2 ki).mono fun e E' L' hq=>by
  cases e with
  |normal=>exact J7.jn hq
  |exit _=>exact hq
  |goto _=>exact hq
  |ret=>exact hq
  |panic _=>exact hq
  |outgrown=>exact hq
def J8 {α0 α1 α2 α3 α4 α5 α6 α7:Type} (T:α0→α1→α2→α3→α4→α5→α6→α7→Env) (G:α0→α1→α2→α3→α4→α5→α6→α7→List ad) (K:α0→α1→α2→α3→α4→α5→α6→α7→Prop) (E:Env) (L:List ad):Prop:=∃(y0:α0) (y1:α1) (y2:α2) (y3:α3) (y4:α4) (y5:α5) (y6:α6) (y7:α7),K y0 y1 y2 y3 y4 y5 y6 y7∧Le (T y0 y1 y2 y3 y4 y5 y6 y7) E∧Sub L (G y0 y1 y2 y3 y4 y5 y6 y7)
def My{k:Env→List ad→Prop}{i:Nat}(h:Q (.exit i) E L):jB k Q (.exit i) E L:=h
def Mc{k:Env→List ad→Prop}(h:Q .ret E L):jB k Q .ret E L:=h
def dK{k:Env→List ad→Prop}{ch:List PanicEntry}(h:Q (.panic ch) E L):jB k Q (.panic ch) E L:=h
def qY{i:Nat}(h:Q .normal E L):ks i Q .normal E L:=h
def XR{i:Nat}(h:Q .ret E L):ks i Q .ret E L:=h
def fC{i:Nat}{ch:List PanicEntry}(h:Q (.panic ch) E L):ks i Q (.panic ch) E L:=h
def XU{i:Nat}(h:Q .normal E L):ks i Q (.exit i) E L:=by simp[ks,h]
def Xj{i j:Nat}(hn:Nat.beq j i=false)(h:Q (.exit j) E L):ks i Q (.exit j) E L:=by simp only[ks,hn,cond_false];exact h
section
variable {L':List ad} {ty:TypeId} {op:Op} {v:Value}
def bQ{p:Prop}[Decidable p](h:cx C op ty E L (.bool (decide p)) L')(hp:p):cx C op ty E L (.bool true) L':=by
 rw[decide_eq_true hp] at h;exact h
def bC{p:Prop}[Decidable p](h:cx C op ty E L (.bool (decide p)) L')(hp:¬p):cx C op ty E L (.bool false) L':=by
 rw[decide_eq_false hp] at h;exact h
def cn{u:Value}(h:cx C op ty E L u L')(e:u=v):cx C op ty E L v L':=e▸h
def Fw{fn:Fn}{fl cl:List Operand}{fs cs:List Value}(hf:iG E fl=some fs)(hc:iG E cl=some cs):cx C (.makeFunc fn fl.toArray cl.toArray) ty E L (.func fn fs.toArray cs.toArray) L:=dM fun d pos aft g a w ha=>by
 simp only[execOp,Instr.makeFunc,ha.iG hf,ha.iG hc]
 rfl
def iO{x:Operand}{hi mx:Option Operand}{t e sz cJ n cap:Nat}{p:Option Addr}(r m:Nat)(ht:sliceB C.P t=some (e,sz,cJ))(hx:au E x=some (.slice p n cap))
  (hr:match hi with|none=>r=n∧mx=none|some z=>∃k,au E z=some (.int k (r:Int)))
  (hm:match mx with|none=>m=cap|some z=>∃k,au E z=some (.int k (m:Int)))
  (h2:r≤m) (h3:m≤cap):cx C (.slice t x none hi mx) ty E L (.slice p r m) L:=by
 have:=dZ (C:=C) (E:=E) (L:=L) (ty:=ty) (lo:=none) 0 r m ht hx rfl hr hm (Nat.zero_le _) h2 h3
 rwa [pF,Nat.sub_zero,Nat.sub_zero] at this
end
end
end Go.Sl
namespace Go.Sl
open Go.RowKit (Below)
abbrev Yv:=Nat→Value
def yu (l:List Oper) (E0:Env) (p:eu) (V:List (Yv→Value)) (y:Yv):Env:=
 (p.jM.filterMap fun j=>match eA l j with|some t=>(match V[j]? with|some f=>some (t,f y)|none=>none)|none=>none)++p.mX.filterMap fun s=>match E0.get s with|some v=>some (s,v)|none=>none
def JG (l:List Oper) (V:List (Yv→Value)) (y:Yv):Nat→Env→Env
 |0,E=>E
 |i+1,E=>match eA l i with|some t=>(match V[i]? with|some f=>(t,f y)::JG l V y i E|none=>JG l V y i E)|none=>JG l V y i E
structure Kn (V:List (Yv→Value)) (P:List (Yv→Prop)) (At:List (Yv→List ad)) (A:List ad) (j:Nat) (y:Yv):Prop where
 val:∃f q,V[j]?=some f∧P[j]?=some q∧y j=f y∧q y
 add:∀a,At[j]?=some a→∀B∈a y,B∈A
def YT:List (Yv→List ad)→Nat→Prop
 |[],_=>True
 |f::fs,i=>(∀y v,f (ek y i v)=f y)∧YT fs i
def Loc (i:Nat) (p:eu) {β:Sort _} (f:Yv→β):Prop:=∀y y':Yv,(∀j,j=i∨j∈p.gC→y j=y' j)→f y=f y'
section
variable {C:Ctx} {E0:Env} {Q:QT} {L:List ad}
def Xn (C:Ctx) (l:List Oper) (E0:Env) (ch:List Nat) (V:List (Yv→Value)) (P:List (Yv→Prop)) (At:List (Yv→List ad)) (Ls:List (Yv→List ad)):Nat→List Oper→List eu→List (Yv→Value)→List (Yv→Prop)→List (Yv→List ad)→Prop
 |_,[],[],[],[],[]=>True
 |i,o::os,p::ps,f::fs,q::qs,b::bs=>Loc i p f∧Loc i p q∧Loc i p b∧(∀y k Lf A,p.lo≤k→k≤p.hi→(∀j∈p.gC,Kn V P At A j y)→Ls[k]?=some Lf→Step C l.toArray o (yu l E0 p V y) (Lf y++A) (fun v L'=>f (ek y i v)=v∧q (ek y i v)∧(if mem i ch then∃L'',Ls[k+1]?=some L''∧L'.Perm (L'' (ek y i v)++(b (ek y i v)++A)) else L'.Perm (Lf (ek y i v)++(b (ek y i v)++A)))))∧Xn C l E0 ch V P At Ls (i+1) os ps fs qs bs
 |_,_,_,_,_,_=>False
structure Acc where
 V:List (Yv→Value)
 P:List (Yv→Prop)
 At:List (Yv→List ad)
def Acc.put (c:Acc) (f:Yv→Value) (q:Yv→Prop) (b:Yv→List ad):Acc:=⟨f::c.V,q::c.P,b::c.At⟩
def acP (l:List Oper) (E0:Env) (p:eu) (i:Nat) (c:Acc) (y:Yv):Env:=
 (p.jM.filterMap fun j=>match eA l j with|some t=>(match c.V[i-1-j]? with|some f=>some (t,f y)|none=>none)|none=>none)++p.mX.filterMap fun s=>match E0.get s with|some v=>some (s,v)|none=>none
def KJ (l:List Oper) (n:Nat) (c:Acc) (y:Yv):Nat→Env→Env
 |0,E=>E
 |i+1,E=>match eA l i with|some t=>(match c.V[n-1-i]? with|some f=>(t,f y)::KJ l n c y i E|none=>KJ l n c y i E)|none=>KJ l n c y i E
structure KnB (c:Acc) (i:Nat) (A:List ad) (j:Nat) (y:Yv):Prop where
 val:∃f q,c.V[i-1-j]?=some f∧c.P[i-1-j]?=some q∧y j=f y∧q y
 add:∀a,c.At[i-1-j]?=some a→∀B∈a y,B∈A
def OwB (C:Ctx) (l:List Oper) (E0:Env) (ch:List Nat) (Ls:List (Yv→List ad)):Nat→Acc→List Oper→List eu→(Acc→Prop)→Prop
 |_,c,[],[],K=>K c
 |i,c,o::os,p::ps,K=>∃(f:Yv→Value) (q:Yv→Prop) (b:Yv→List ad),Loc i p f∧Loc i p q∧Loc i p b∧(∀y k Lf A,p.lo≤k→k≤p.hi→(∀j∈p.gC,KnB c i A j y)→Ls[k]?=some Lf→Step C l.toArray o (acP l E0 p i c y) (Lf y++A) (fun v L'=>f (ek y i v)=v∧q (ek y i v)∧(if mem i ch then∃L'',Ls[k+1]?=some L''∧L'.Perm (L'' (ek y i v)++(b (ek y i v)++A)) else L'.Perm (Lf (ek y i v)++(b (ek y i v)++A)))))∧OwB C l E0 ch Ls (i+1) (c.put f q b) os ps K
 |_,_,_,_,_=>False
section
variable {l:List Oper} {ch:List Nat} {Ls:List (Yv→List ad)} {i:Nat} {c:Acc} {o:Oper} {os:List Oper} {ps:List eu} {f:Yv→Value} {K:Acc→Prop}
end
def ej:Value→Option Addr|.slice p _ _=>p|_=>none
def fT:Value→Nat|.slice _ _ c=>c|_=>0
def PF{ops:Array Oper}{o:Oper}{E:Env}{R R':Value→List ad→Prop}(h:Step C ops o E L R)(hR:∀v L',R v L'→R' v L'):Step C ops o E L R':=
 fun a w K Q ha hi hK=>h a w K Q ha hi fun v L' w' hr hi'=>hK v L' w' (hR v L' hr) hi'
def tK{ops:Array Oper}{d:Option Nat}{ty:TypeId}{pos:String}{aft:Array Edge}{E:Env}{f:FuncId}{args:List Operand}{tys:Array TypeId}{vs:List Value}{Pre F:List ad}{R:Value→List ad→Prop}{R':Value→List ad→Prop}(hS:aA C.P f vs Pre (aF R))(hb:az C.P f=true)(hE:iG E args=some vs)(hL:fG L Pre F)
  (hR:∀v G,R v G→R' v (G++F)):Step C ops ⟨d,.call ⟨.value (.func f),args.toArray,tys⟩,ty,pos,aft,none⟩ E L R':=
 PF (yf (Jd hS hb hE hL)) fun v L' ⟨G,h1,e⟩=>by subst e;exact hR v G h1
end
end Go.Sl
namespace Go.Sl
open Go.RowKit (Below)
section
variable {C:Ctx} {Q:QT} {E:Env} {L L' F:List ad} {ops:Array Oper} {rest:List Oper} {d:Nat} {ty:TypeId} {pos:String} {aft:Array Edge} {op:Op} {v:Value}
end
def aS{L G M F:List ad}{A:ad}(hr:fG L G M)(hd:Drop M F)(hA:∀w0 h,cY w0 G h→A w0 h):Sub L (A::F):=(sub hr hd).trans (fold hA)
def ints (k:IntKind) (xs:List Int):List Value:=xs.map (Value.int k)
def GN{k:IntKind}{xs:List Int}{i:Nat}(h:i<xs.length):(ints k xs)[i]?=some (.int k (xs.getD i 0)):=by simp[ints,h]
def ints_set{k:IntKind}{xs:List Int}{i:Nat}{n:Int}:(ints k xs).set i (.int k n)=ints k (xs.set i n):=by simp[ints]
def aeE (xs:List Bool):List Value:=xs.map Value.bool
end Go.Sl
namespace Go.Sl
section
variable {C:Ctx} {Q:QT} {E:Env} {L L' F:List ad} {ty:TypeId} {v:Value} {x y:Operand} {t t':TypeId} {k:FloatKind} {a b r:Nat}
end
end Go.Sl
namespace Go.Sl
open Go.RowKit (Below)
def iK (p:Option Addr):Nat:=match p with|some a=>a.block|none=>0
def rS (p:Option Addr):Nat:=match p with|some a=>a.off|none=>0
structure Ec (α:Type) where
 T:TypeId
 sz:Nat
 e:α→List Value
 d:α
 len:∀x,(e x).length=sz
 one:∀x,(e x).all Value.oneCell'=true
def Ec.g {α:Type} (c:Ec α) (l:List α) (i:Int):α:=l.getD i.toNat c.d
def Ec.zM{α:Type}(c:Ec α){l:List α}{k:Nat}(h:k<l.length):c.g l (k:Int)=l[k]:=by simp[Ec.g,h]
abbrev aK (T:TypeId) (k:IntKind):Ec Int:=⟨T,1,fun x=>[.int k x],0,fun _=>rfl,fun _=>rfl⟩
abbrev ecB (T:TypeId):Ec Bool:=⟨T,1,fun x=>[.bool x],false,fun _=>rfl,fun _=>rfl⟩
def Row {α:Type} (c:Ec α) (p:Option Addr) (n cap:Nat) (l:List α):ad:=fun w0 h=>l.length=n∧Sl p n cap c.T c.sz (l.flatMap c.e) w0 h
def aE {α:Type} (c:Ec α) (p:Option Addr) (n:Nat) (l:List α):ad:=fun w0 h=>l.length=n∧Rd p n c.sz (l.flatMap c.e) w0 h
def Row.rd{α:Type}{c:Ec α}{p:Option Addr}{n cap:Nat}{l:List α}{w0:World}{h:Hp}(hr:Row c p n cap l w0 h):aE c p n l w0 h:=⟨hr.1,Sl.rd hr.2⟩
def gA{α:Type}(c:Ec α)(l:List α):(l.flatMap c.e).length=l.length*c.sz:=by
 induction l with
 |nil=>simp
 |cons x l ih=>simp only[List.flatMap_cons,List.length_append,c.len,ih,List.length_cons,Nat.succ_mul];omega
def rj{α:Type}(c:Ec α):∀(l:List α) (i f:Nat) (h:i<l.length),f<c.sz→(l.flatMap c.e)[i*c.sz+f]?=(c.e l[i])[f]?
 |x::l,0,f,h,hf=>by simp only[List.flatMap_cons,Nat.zero_mul,Nat.zero_add,List.getElem_cons_zero];rw[List.getElem?_append_left (by rw[c.len];exact hf)]
 |x::l,i+1,f,h,hf=>by
  simp only[List.flatMap_cons,List.getElem_cons_succ]
  rw[List.getElem?_append_right (by rw[c.len,Nat.succ_mul];omega),c.len,show(i+1)*c.sz+f-c.sz=i*c.sz+f by rw[Nat.succ_mul];omega]
  exact rj c l i f (by simpa using h) hf
def pj{α:Type}(c:Ec α):∀(l:List α) (i:Nat),(l.flatMap c.e).drop (i*c.sz)=(l.drop i).flatMap c.e
 |l,0=>by simp
 |[],i+1=>by simp
 |x::l,i+1=>by
  simp only[List.flatMap_cons,List.drop_succ_cons]
  rw[show(i+1)*c.sz=(c.e x).length+i*c.sz by rw[c.len,Nat.succ_mul];omega,←List.drop_drop,List.drop_left]
  exact pj c l i
def sB{α:Type}(c:Ec α):∀(l:List α) (i:Nat),(l.flatMap c.e).take (i*c.sz)=(l.take i).flatMap c.e
 |l,0=>by simp
 |[],i+1=>by simp
 |x::l,i+1=>by
  simp only[List.flatMap_cons,List.take_succ_cons]
  rw[show(i+1)*c.sz=(c.e x).length+i*c.sz by rw[c.len,Nat.succ_mul];omega,List.take_length_add_append]
  rw[sB c l i]
def RL{α:Type}(c:Ec α)(l:List α)(i:Nat)(h:i<l.length):((l.flatMap c.e).drop (i*c.sz)).take c.sz=c.e l[i]:=by
 rw[pj,List.drop_eq_getElem_cons h,List.flatMap_cons]
 exact List.take_left' (c.len _)
def Ak{α:Type}(c:Ec α):∀(l:List α) (i f:Nat) (h:i<l.length) (v:Value) (y:α),f<c.sz→(c.e l[i]).set f v=c.e y→(l.flatMap c.e).set (i*c.sz+f) v=(l.set i y).flatMap c.e
 |x::l,0,f,h,v,y,hf,e=>by
  simp only[List.flatMap_cons,Nat.zero_mul,Nat.zero_add,List.set_cons_zero]
  rw[List.set_append_left _ _ (by rw[c.len];exact hf)]
  rw[←e];rfl
 |x::l,i+1,f,h,v,y,hf,e=>by
  simp only[List.flatMap_cons,List.set_cons_succ]
  rw[List.set_append_right _ _ (by rw[c.len,Nat.succ_mul];omega),c.len,show(i+1)*c.sz+f-c.sz=i*c.sz+f by rw[Nat.succ_mul];omega]
  rw[Ak c l i f (by simpa using h) v y hf (by simpa using e)]
def Ic{α:Type}(c:Ec α)(l:List α)(i:Nat)(h:i<l.length)(y:α):(l.flatMap c.e).take (i*c.sz)++c.e y++(l.flatMap c.e).drop (i*c.sz+c.sz)=(l.set i y).flatMap c.e:=by
 rw[sB,show i*c.sz+c.sz=(i+1)*c.sz by rw[Nat.succ_mul],pj]
 rw[List.set_eq_take_append_cons_drop,if_pos h]
 simp
def re{α:Type}(c:Ec α)(l:List α):(l.flatMap c.e).all Value.oneCell'=true:=by
 simp only[List.all_eq_true]
 intro v hv
 obtain⟨x,_,hx⟩:=List.mem_flatMap.1 hv
 exact List.all_eq_true.1 (c.one x) v hx
def Has {α:Type} (w0:World) (L:List ad) (c:Ec α) (p:Option Addr) (n:Nat) (l:List α):Prop:=∃R,R∈L∧∀h,R w0 h→aE c p n l w0 h
def own{α:Type}{w0:World}{L:List ad}{c:Ec α}{p:Option Addr}{n cap:Nat}{l:List α}(hm:Row c p n cap l∈L):Has w0 L c p n l:=⟨_,hm,fun _ h=>Row.rd h⟩
def bK{α:Type}{w0:World}{L:List ad}{R:ad}{c:Ec α}{p:Option Addr}{n:Nat}{l:List α}(hR:∀w0 h,R w0 h→aE c p n l w0 h)(hm:R∈L):Has w0 L c p n l:=⟨R,hm,fun h hh=>hR w0 h hh⟩
def Has.fact{α:Type}{w0 w:World}{L:List ad}{c:Ec α}{p:Option Addr}{n:Nat}{l:List α}(H:Has w0 L c p n l)(hi:Inv w0 L w):
  l.length=n∧(n=0∨∃b o,p=some ⟨b,o,none⟩∧∀i v,(l.flatMap c.e)[i]?=some v→w.cell? ⟨b,o+i,none⟩=some v):=by
 obtain⟨R,hm,hR⟩:=H
 obtain⟨F,hb,h,a,h1,h2,d,l1,l2,hp,k⟩:=hi.mem hm
 obtain⟨e0,e1,e2⟩:=hR h1 hp
 refine⟨e0,e2.imp id ?_⟩
 rintro⟨b,o,rfl,hc⟩
 exact⟨b,o,rfl,fun i v hv=>wA hb (fun b o e=>a b o (l1 b o e)) (hc i v hv)⟩
def Has.len{α:Type}{w0 w:World}{L:List ad}{c:Ec α}{p:Option Addr}{n:Nat}{l:List α}(H:Has w0 L c p n l)(hi:Inv w0 L w):l.length=n:=(H.fact hi).1
section
variable {C:Ctx} {Q:QT} {E:Env} {L L' F:List ad} {ops:Array Oper} {rest:List Oper} {d:Nat} {ty:TypeId} {pos:String} {aft:Array Edge} {op:Op} {v:Value} {α:Type} {c:Ec α}
def Nv{cd:Code}{p:Option Addr}{n:Nat}{l:List α}(H:Has C.w0 L c p n l)(k:l.length=n→Wp C cd Q E L):Wp C cd Q E L:=fe (fun w hi=>H.len hi) k
def wF{cd:Code}{p:Option Addr}{n cap:Nat}{l:List α}(hm:Row c p n cap l∈L)(k:n≤cap→Wp C cd Q E L):Wp C cd Q E L:=fe (p:=n≤cap) (fun w hi=>by
 obtain⟨F,hb,h,a,h1,h2,d,l1,l2,hp,_⟩:=hi.mem hm
 rcases hp.2 with⟨rfl,rfl,rfl,_⟩|⟨b,o,pre,post,_,_,_,_,_,e⟩
 ·exact Nat.le_refl _
 ·exact e) k
def cx.IK{p:Prop}(h:∀w,Inv C.w0 L w→p)(k:p→cx C op ty E L v L'):cx C op ty E L v L':=fun d pos aft g a w ha hi=>k (h w hi) d pos aft g a w ha hi
def EB{x ix:Operand}{t cJ n cap:Nat}{p:Option Addr}{k:IntKind}{i:Int}{l:List α}(ht:sliceB C.P t=some (c.T,c.sz,cJ))(h:au E x=some (.slice p n cap))(hi:au E ix=some (.int k i))(H:Has C.w0 L c p n l)(h0:0≤i)(hlt:i<n):
  cx C (.indexAddr t x ix) ty E L (.pointer (some ⟨iK p,rS p+i.toNat*c.sz,none⟩)) L:=
 cx.IK (p:=∃b o,p=some ⟨b,o,none⟩) (fun w hi=>by
  obtain⟨_,e⟩:=H.fact hi
  rcases e with e|⟨b,o,e,_⟩
  ·omega
  ·exact⟨b,o,e⟩) (by
  rintro⟨b,o,rfl⟩
  exact RD i.toNat omg ht h hi omg)
def fE{x:Operand}{t n:Nat}{p:Option Addr}{i:Int}{l:List α}(f:Nat)(hs:da C.P t=true)(hx:au E x=some (.pointer (some ⟨iK p,rS p+i.toNat*c.sz+f,none⟩)))(H:Has C.w0 L c p n l)(h0:0≤i)(hlt:i<n)(hf:Nat.blt f c.sz=true)(hv:(c.e (c.g l i))[f]?=some v):cx C (.load t x) ty E L v L:=
 CC hs hx fun w hi=>by
  obtain⟨e1,e2⟩:=H.fact hi
  rcases e2 with e2|⟨b,o,e3,e4⟩
  ·omega
  ·subst e3
   show w.cell? ⟨b,o+i.toNat*c.sz+f,none⟩=some v
   rw[Nat.add_assoc]
   refine e4 _ _ ?_
   rw[rj c l i.toNat f omg (fY hf),←hv]
   simp[Ec.g,show i.toNat<l.length by omega]
def Ue{x:Operand}{t n:Nat}{p:Option Addr}{i:Int}{l:List α}(hs:da C.P t=true)(hx:au E x=some (.pointer (some ⟨iK p,rS p+i.toNat*c.sz,none⟩)))(H:Has C.w0 L c p n l)(h0:0≤i)(hlt:i<n)(hf:Nat.blt 0 c.sz=true)(hv:(c.e (c.g l i))[0]?=some v):cx C (.load t x) ty E L v L:=
 fE 0 hs hx H h0 hlt hf hv
def mU{x:Operand}{t n:Nat}{p:Option Addr}{i:Int}{l:List α}{us:List Value}(hs:gR C.P t=some c.sz)(hx:au E x=some (.pointer (some ⟨iK p,rS p+i.toNat*c.sz,none⟩)))(H:Has C.w0 L c p n l)(h0:0≤i)(hlt:i<n)(hv:c.e (c.g l i)=us):cx C (.load t x) ty E L (.agg us.toArray) L:=
 cx.IK (p:=∃b o,p=some ⟨b,o,none⟩) (fun w hi=>by
  obtain⟨_,e⟩:=H.fact hi
  rcases e with e|⟨b,o,e,_⟩
  ·omega
  ·exact⟨b,o,e⟩) (by
  rintro⟨b,o,rfl⟩
  refine wy hs hx (by rw[←hv,c.len]) fun w hi j v hj=>?_
  obtain⟨e1,e2⟩:=H.fact hi
  rcases e2 with e2|⟨b',o',e3,e4⟩
  ·omega
  ·cases e3
   show w.cell? ⟨b,o+i.toNat*c.sz+j,none⟩=some v
   rw[Nat.add_assoc]
   refine e4 _ _ ?_
   have hjl:=(List.getElem?_eq_some_iff.1 hj).1
   rw[←hv,c.len] at hjl
   rw[rj c l i.toNat j omg hjl,←hj,←hv]
   simp[Ec.g,show i.toNat<l.length by omega])
def KG{x z:Operand}{t n cap:Nat}{p:Option Addr}{i:Int}{l:List α}{u:Value}(f:Nat)(y:α)(hs:da C.P t=true)(hx:au E x=some (.pointer (some ⟨iK p,rS p+i.toNat*c.sz+f,none⟩)))(hy:au E z=some u)(h1:u.oneCell'=true)
  (hr:jU L (Row c p n cap l) (Row c p n cap (l.set i.toNat y)) L') (h0:0≤i) (hlt:i<n) (hf:Nat.blt f c.sz=true) (hv:(c.e (c.g l i)).set f u=c.e y):cx C (.store t x z) ty E L undef L':=by
 intro d pos aft g a w ha hi
 obtain⟨F,p1,p2⟩:=hr.perm
 have hi1:=hi.perm p1
 obtain⟨e1,e2⟩:=(own (w0:=C.w0) (L:=Row c p n cap l::F) ay).fact hi1
 obtain⟨b,o,rfl⟩:∃b o,p=some ⟨b,o,none⟩:=by
  rcases e2 with e2|⟨b,o,e2,_⟩
  ·omega
  ·exact⟨b,o,e2⟩
 have hi2:Inv C.w0 (Sl (some ⟨b,o,none⟩) n cap c.T c.sz (l.flatMap c.e)::F) w:=hi1.imp (fun h hh=>hh.2)
 have hil:i.toNat<l.length:=omg
 have hil2:i.toNat*c.sz+f<(l.flatMap c.e).length:=by
  rw[gA]
  have:(i.toNat+1)*c.sz≤l.length*c.sz:=Nat.mul_le_mul_right _ hil
  rw[Nat.succ_mul] at this
  have:=fY hf
  omega
 obtain⟨w',hr',hi',_⟩:=JZ (C:=C) (E:=E) (ty:=ty) (L:=Sl (some ⟨b,o,none⟩) n cap c.T c.sz (l.flatMap c.e)::F) (vs':=(l.set i.toNat y).flatMap c.e) (i.toNat*c.sz+f) hs hx hy h1 jU.head (by show o+i.toNat*c.sz+f=_;omega) hil2 (Ak c l i.toNat f hil u y (fY hf) (by rw[←hv];simp[Ec.g,hil])) d pos aft g a w ha hi2
 exact⟨w',hr',(hi'.imp (fun h hh=>⟨by simp[e1],hh⟩)).perm p2,fun h=>by cases h⟩
def mK{x z:Operand}{t n cap:Nat}{p:Option Addr}{i:Int}{l:List α}{u:Value}(y:α)(hs:da C.P t=true)(hx:au E x=some (.pointer (some ⟨iK p,rS p+i.toNat*c.sz,none⟩)))(hy:au E z=some u)(h1:u.oneCell'=true)
  (hr:jU L (Row c p n cap l) (Row c p n cap (l.set i.toNat y)) L') (h0:0≤i) (hlt:i<n) (hf:Nat.blt 0 c.sz=true) (hv:(c.e (c.g l i)).set 0 u=c.e y):cx C (.store t x z) ty E L undef L':=
 KG 0 y hs hx hy h1 hr h0 hlt hf hv
def LY{x z:Operand}{t n cap:Nat}{p:Option Addr}{i:Int}{l:List α}{us:List Value}(y:α)(hs:gR C.P t=some c.sz)(hx:au E x=some (.pointer (some ⟨iK p,rS p+i.toNat*c.sz,none⟩)))(hy:au E z=some (.agg us.toArray))
  (hr:jU L (Row c p n cap l) (Row c p n cap (l.set i.toNat y)) L') (h0:0≤i) (hlt:i<n) (hv:us=c.e y):cx C (.store t x z) ty E L undef L':=by
 intro d pos aft g a w ha hi
 subst hv
 obtain⟨F,p1,p2⟩:=hr.perm
 have hi1:=hi.perm p1
 obtain⟨e1,e2⟩:=(own (w0:=C.w0) (L:=Row c p n cap l::F) ay).fact hi1
 obtain⟨b,o,rfl⟩:∃b o,p=some ⟨b,o,none⟩:=by
  rcases e2 with e2|⟨b,o,e2,_⟩
  ·omega
  ·exact⟨b,o,e2⟩
 have hil:i.toNat<l.length:=omg
 have hi2:Inv C.w0 (Sl (some ⟨b,o,none⟩) n cap c.T c.sz (l.flatMap c.e)::F) w:=hi1.imp (fun h hh=>hh.2)
 obtain⟨zz,hzz,hi3⟩:=hi2.zr (Sl.open_ C.w0)
 cases zz with
 |none=>cases hzz.1
 |some zz=>
  obtain⟨b',o',pre,post⟩:=zz
  obtain⟨e3,e4,e5,e6,e7⟩:=hzz
  cases e3
  have hle:(i.toNat+1)*c.sz≤l.length*c.sz:=Nat.mul_le_mul_right _ hil
  rw[Nat.succ_mul] at hle
  have hfl:=gA c l
  obtain⟨w',hr',hi',_⟩:=aZ (C:=C) (E:=E) (ty:=ty) (L:=ai b c.T (pre++l.flatMap c.e++post)::F) (o:=o+i.toNat*c.sz) (cs':=pre++(l.set i.toNat y).flatMap c.e++post) hs hx hy (c.one y) (c.len y) jU.head (by simp only[List.length_append];omega) (by
   rw[←Ic c l i.toNat hil y]
   have t1:(pre++l.flatMap c.e++post).take (o+i.toNat*c.sz)=pre++(l.flatMap c.e).take (i.toNat*c.sz):=by
    rw[List.append_assoc,List.take_append,e4,List.take_of_length_le omg,show o+i.toNat*c.sz-o=i.toNat*c.sz by omega,List.take_append_of_le_length omg]
   have t2:(pre++l.flatMap c.e++post).drop (o+i.toNat*c.sz+c.sz)=(l.flatMap c.e).drop (i.toNat*c.sz+c.sz)++post:=by
    rw[List.append_assoc,List.drop_append,e4,List.drop_of_length_le omg,List.nil_append,show o+i.toNat*c.sz+c.sz-o=i.toNat*c.sz+c.sz by omega,List.drop_append_of_le_length omg]
   rw[t1,t2]
   simp[List.append_assoc]) d pos aft g a w ha (by simpa using hi3)
  refine⟨w',hr',Inv.perm ?_ p2,fun h=>by cases h⟩
  refine Inv.cls (B:=[ai b c.T (pre++(l.set i.toNat y).flatMap c.e++post)]) (fun h hc=>⟨by simp[e1],Sl.mk hc e4 (by rw[gA,List.length_set];rw[hfl] at e5;exact e5) e6 e7⟩) hi'
def pI{s x:Operand}{t cJ n m cap cap2:Nat}{p p2:Option Addr}{l l2:List α}{F:List ad}{zs:List Value}
  (ht:sliceB C.P t=some (c.T,c.sz,cJ)) (hz:cW C.P c.T=some zs) (hsz:Nat.ble 1 c.sz=true) (hby:Nat.ble 1 cJ=true)
  (hs:au E s=some (.slice p n cap)) (hx:au E x=some (.slice p2 m cap2)) (hL:ij L (Row c p n cap l) F) (H:Has C.w0 L c p2 m l2) (hb:(n+m)*cJ≤140737488355328):
  lk C (.call ⟨.builtin .append,[s,x].toArray, #[t,t]⟩) ty E L (fun v L'=>∃p' cap',v=.slice p' (n+m) cap'∧L'=Row c p' (n+m) cap' (l++l2)::F):=by
 intro d pos aft g a w K Qx ha hi hK
 obtain⟨R,hm,hR⟩:=H
 have hl2:l2.length=m:=(Has.fact ⟨R,hm,hR⟩ hi).1
 have hl1:l.length=n:=((own (w0:=C.w0) (L:=Row c p n cap l::F) ay).fact (hi.perm hL.perm)).1
 by_cases hRe:R∈F
 ·have hi2:Inv C.w0 (Sl p n cap c.T c.sz (l.flatMap c.e)::F) w:=(hi.perm hL.perm).imp (fun h hh=>hh.2)
  refine Af (C:=C) (E:=E) (ty:=ty) (vs:=l.flatMap c.e) (ws:=l2.flatMap c.e) (R:=R) ht hz hsz hby hs hx ij.head (List.mem_cons_of_mem _ hRe) (fun h hh=>(hR h hh).2) (re c l2) hb d pos aft g a w K Qx ha hi2 ?_
  rintro v L' w' ⟨p',cap',e1,e2⟩ hi'
  subst e2
  exact hK v _ w' ⟨p',cap',e1,rfl⟩ (hi'.imp (fun h hh=>⟨by simp[hl1,hl2],by rw[List.flatMap_append];exact hh⟩))
 ·have hRr:R=Row c p n cap l:=by
   have:=hL.perm.mem_iff.1 hm
   rcases List.mem_cons.1 this with e|e
   ·exact e
   ·exact absurd e hRe
  subst hRr
  have hi2:Inv C.w0 (Sl p n cap c.T c.sz (l.flatMap c.e)::F) w:=(hi.perm hL.perm).imp (fun h hh=>hh.2)
  refine Af (C:=C) (E:=E) (ty:=ty) (vs:=l.flatMap c.e) (ws:=l2.flatMap c.e) (R:=Sl p n cap c.T c.sz (l.flatMap c.e)) ht hz hsz hby hs hx ij.head (List.mem_cons_self) (fun h hh=>(hR h ⟨hl1,hh⟩).2) (re c l2) hb d pos aft g a w K Qx ha hi2 ?_
  rintro v L' w' ⟨p',cap',e1,e2⟩ hi'
  subst e2
  exact hK v _ w' ⟨p',cap',e1,rfl⟩ (hi'.imp (fun h hh=>⟨by simp[hl1,hl2],by rw[List.flatMap_append];exact hh⟩))
def ei{s x:Operand}{t cJ n m cap cap2:Nat}{p p2:Option Addr}{l l2:List α}{F:List ad}{zs:List Value}
  (ht:sliceB C.P t=some (c.T,c.sz,cJ)) (hz:cW C.P c.T=some zs) (hsz:Nat.ble 1 c.sz=true) (hby:Nat.ble 1 cJ=true)
  (hs:au E s=some (.slice p n cap)) (hx:au E x=some (.slice p2 m cap2)) (hL:ij L (Row c p n cap l) F) (H:Has C.w0 L c p2 m l2) (hb:(n+m)*cJ≤140737488355328) (hd:Nat.blt d C.n=true)
  (k:∀p' cap',dr C ops rest Q ((d,.slice p' (n+m) cap')::E) (Row c p' (n+m) cap' (l++l2)::F)):
  dr C ops (⟨some d,.call ⟨.builtin .append,[s,x].toArray, #[t,t]⟩,ty,pos,aft,none⟩::rest) Q E L:=
 qV (pI ht hz hsz hby hs hx hL H hb) hd fun v L' ⟨p',cap',e1,e2⟩=>by subst e1;subst e2;exact k p' cap'
def Rc{x y:Operand}{t cJ:Nat}{k1 k2:IntKind}{i1 i2:Int}{zs:List Value}(ht:sliceB C.P t=some (c.T,c.sz,cJ))(hz:cW C.P c.T=some zs)(hze:zs=c.e c.d)(hsz:Nat.ble 1 c.sz=true)
  (hx:au E x=some (.int k1 i1)) (hy:au E y=some (.int k2 i2)) (h0:0≤i1) (hnc:i1≤i2) (hb:i2*cJ≤281474976710656) (hby:Nat.ble 1 cJ=true):
  lk C (.makeSlice t x y) ty E L (fun v L'=>∃b,v=.slice (soz b) i1.toNat i2.toNat∧L'=Row c (soz b) i1.toNat i2.toNat (List.replicate i1.toNat c.d)::L):=by
 intro d pos aft g a w K Qx ha hi hK
 have hby:=Nat.le_of_ble_eq_true hby
 have hb':i2.toNat*cJ≤281474976710656:=by
  have:((i2.toNat*cJ:Nat):Int)=i2*cJ:=by rw[Int.natCast_mul];congr 1;omega
  omega
 have h63:i2.toNat≤i2.toNat*cJ:=Nat.le_mul_of_pos_right _ hby
 refine Uv (C:=C) (E:=E) (ty:=ty) i1.toNat i2.toNat omg omg ht hz hsz hx hy omg omg hb' d pos aft g a w K Qx ha hi ?_
 rintro v L' w' ⟨b,e1,e2⟩ hi'
 subst e2
 refine hK v _ w' ⟨b,e1,rfl⟩ (hi'.imp (fun h hh=>⟨by simp,?_⟩))
 have e:(List.replicate i1.toNat c.d).flatMap c.e=(List.replicate i1.toNat zs).flatten:=by rw[hze,List.flatMap_replicate]
 rw[e]
 exact hh
def Sg{x y:Operand}{t cJ:Nat}{k1 k2:IntKind}{i1 i2:Int}{zs:List Value}(c:Ec α)(ht:sliceB C.P t=some (c.T,c.sz,cJ))(hz:cW C.P c.T=some zs)(hze:zs=c.e c.d)(hsz:Nat.ble 1 c.sz=true)
  (hx:au E x=some (.int k1 i1)) (hy:au E y=some (.int k2 i2)) (h0:0≤i1) (hnc:i1≤i2) (hb:i2*cJ≤281474976710656) (hby:Nat.ble 1 cJ=true) (hd:Nat.blt d C.n=true)
  (k:∀b,dr C ops rest Q ((d,.slice (soz b) i1.toNat i2.toNat)::E) (Row c (soz b) i1.toNat i2.toNat (List.replicate i1.toNat c.d)::L)):dr C ops (⟨some d,.makeSlice t x y,ty,pos,aft,none⟩::rest) Q E L:=
 qV (Rc ht hz hze hsz hx hy h0 hnc hb hby) hd fun v L' ⟨b,e1,e2⟩=>by subst e1;subst e2;exact k b
def vy{t cJ len:Nat}{parts:List (Nat×Operand)}{pv:List (Nat×Value)}{zs:List Value}(c:Ec α)(l:List α)(ht:sliceB C.P t=some (c.T,c.sz,cJ))(hz:cW C.P c.T=some zs)(hsz:Nat.ble 1 c.sz=true)(hsm:Nat.ble (len*c.sz) 16777216=true)
  (hp:rP E parts=some pv) (hf:Instr.fill (fun i=>some (i*c.sz,c.sz)) ((List.replicate len zs).flatten.toArray) pv=some (l.flatMap c.e).toArray) (hl:l.length=len):
  lk C (.buildSlice t len parts.toArray) ty E L (fun v L'=>∃b,v=.slice (soz b) len len∧L'=Row c (soz b) len len l::L):=by
 intro d pos aft g a w K Qx ha hi hK
 refine AX (C:=C) (E:=E) (ty:=ty) ht hz hsz hsm (o4 hp) hf (by rw[gA,hl]) d pos aft g a w K Qx ha hi ?_
 rintro v L' w' ⟨b,e1,e2⟩ hi'
 subst e2
 exact hK v _ w' ⟨b,e1,rfl⟩ (hi'.imp (fun h hh=>⟨hl,hh⟩))
def cg{t cJ len:Nat}{parts:List (Nat×Operand)}{pv:List (Nat×Value)}{zs:List Value}(c:Ec α)(l:List α)(ht:sliceB C.P t=some (c.T,c.sz,cJ))(hz:cW C.P c.T=some zs)(hsz:Nat.ble 1 c.sz=true)(hsm:Nat.ble (len*c.sz) 16777216=true)
  (hp:rP E parts=some pv) (hf:Instr.fill (fun i=>some (i*c.sz,c.sz)) ((List.replicate len zs).flatten.toArray) pv=some (l.flatMap c.e).toArray) (hl:l.length=len) (hd:Nat.blt d C.n=true)
  (k:∀b,dr C ops rest Q ((d,.slice (soz b) len len)::E) (Row c (soz b) len len l::L)):dr C ops (⟨some d,.buildSlice t len parts.toArray,ty,pos,aft,none⟩::rest) Q E L:=
 qV (vy c l ht hz hsz hsm hp hf hl) hd fun v L' ⟨b,e1,e2⟩=>by subst e1;subst e2;exact k b
end
def Row.nil{α:Type}(c:Ec α)(w0:World)(h:Hp):Row c none 0 0 [] w0 h:=⟨rfl,Sl.nil _ _ _ _⟩
def aE.sub{α:Type}{c:Ec α}{p:Option Addr}{n:Nat}{l:List α}{w0:World}{h:Hp}(hr:aE c p n l w0 h)(a b m:Nat)(h1:a≤b)(h2:b≤n)(h3:b≤m):aE c (cM p a m c.sz) (b-a) ((l.drop a).take (b-a)) w0 h:=by
 obtain⟨e0,e1,e2⟩:=hr
 refine⟨by simp;omega,?_⟩
 rw[←sB,←pj]
 refine⟨by rw[List.length_take,List.length_drop,e1];rw[←Nat.sub_mul];exact Nat.min_eq_left (Nat.mul_le_mul_right _ omg),?_⟩
 by_cases hab:b=a
 ·left;omega
 ·right
  rcases e2 with e2|⟨b',o,rfl,e2⟩
  ·omega
  ·refine⟨b',o+a*c.sz,IT _ _ _ _ _ omg,fun i v hv=>?_⟩
   rw[Nat.add_assoc]
   refine e2 _ _ ?_
   rw[List.getElem?_take] at hv
   split at hv
   ·rwa [List.getElem?_drop] at hv
   ·cases hv
end Go.Sl
namespace Go.Sl
open Go.RowKit (Below)
section
variable {C:Ctx} {Q:QT} {E:Env} {L L' F:List ad} {ops:Array Oper} {rest:List Oper} {d:Nat} {ty:TypeId} {pos:String} {aft:Array Edge} {op:Op} {v:Value} {α:Type} {c:Ec α}
def mL{x y:Operand}{t cJ:Nat}{k1 k2:IntKind}{i1 i2:Int}{zs:List Value}(n m:Nat)(c:Ec α)(e1:i1=(n:Int))(e2:i2=(m:Int))(ht:sliceB C.P t=some (c.T,c.sz,cJ))(hz:cW C.P c.T=some zs)(hze:zs=c.e c.d)(hsz:Nat.ble 1 c.sz=true)
    (hx:au E x=some (.int k1 i1)) (hy:au E y=some (.int k2 i2)) (hnc:n≤m) (hb:m*cJ≤281474976710656) (hby:Nat.ble 1 cJ=true) (hd:Nat.blt d C.n=true)
    (k:∀b,dr C ops rest Q ((d,.slice (soz b) n m)::E) (Row c (soz b) n m (List.replicate n c.d)::L)):dr C ops (⟨some d,.makeSlice t x y,ty,pos,aft,none⟩::rest) Q E L:=by
  subst e1
  subst e2
  refine Sg c ht hz hze hsz hx hy omg omg ?_ hby hd k
  have:((m*cJ:Nat):Int)=(m:Int)*cJ:=Int.natCast_mul _ _
  omega
def Has.sub{w0:World}{p:Option Addr}{n:Nat}{l:List α}(H:Has w0 L c p n l)(a b m:Nat)(h1:a≤b)(h2:b≤n)(h3:b≤m):Has w0 L c (cM p a m c.sz) (b-a) ((l.drop a).take (b-a)):=by
  obtain⟨R,hm,hR⟩:=H
  exact⟨R,hm,fun h hh=>(hR h hh).sub a b m h1 h2 h3⟩
def Has.take{w0:World}{p:Option Addr}{n:Nat}{l:List α}(H:Has w0 L c p n l)(b:Nat)(h2:b≤n):Has w0 L c p b (l.take b):=by
  have:=H.sub 0 b b (Nat.zero_le _) h2 (Nat.le_refl _)
  rwa [pF,Nat.sub_zero,List.drop_zero] at this
end
end Go.Sl
namespace Go.Sl
open Go.RowKit (Below)
structure dR where
 a:Yv→ad
 cJ:Option Nat
 use:Option Nat
 rd:List Nat
def jD (o:Option Nat) (i:Nat):Bool:=match o with|some j=>Nat.beq j i|none=>false
def qB{o:Option Nat}{i:Nat}:jD o i=true↔o=some i:=by
 unfold jD
 cases o with
 |none=>simp
 |some j=>
  constructor
  ·intro h;rw[Nat.eq_of_beq_eq_true h]
  ·intro h;cases h;exact Nat.beq_refl _
def iR (ts:List dR) (i:Nat):List dR:=ts.filter fun t=>jD t.use i
def fo (ts:List dR) (i:Nat):List dR:=ts.filter fun t=>mem i t.rd
def im (ts:List dR) (i:Nat):List dR:=ts.filter fun t=>jD t.cJ i
def xC (ts:List dR):List dR:=ts.filter fun t=>t.use.isNone
def sG (ts:List dR):List dR:=ts.filter fun t=>t.cJ.isNone
def e9 (ts:List dR) (y:Yv):List ad:=ts.map fun t=>t.a y
def ir (listed:Array Bool) (t:dR):Bool:=
 (match t.cJ with|some p=>listed.getD p false|none=>true)&&(match t.use with|some c=> !(listed.getD c false)|none=>true)
def vJ (ps:List eu) (t:dR) (i:Nat):Bool:=match t.cJ with|some p=>mem p (fa ps i)|none=>true
def xU (ps:List eu) (n:Nat) (t:dR):Bool:=
 (match t.use with|some c=>vJ ps t c&&Nat.blt c n|none=>true)&&(match t.cJ with|some p=>Nat.blt p n|none=>true)&&
 t.rd.all (fun i=>vJ ps t i&&Nat.blt i n&&(match t.use with|some c=>mem i (fa ps c)|none=>true))
def ac2 (C:Ctx) (l:List Oper) (ps:List eu) (i:Nat):Bool:=Bq C l ps [] i
def Cn (C:Ctx) (l:List Oper) (ps:List eu) (ts:List dR):Bool:=(List.range l.length).all (Bq C l ps [])&&ts.all (xU ps l.length)
structure xt (ps:List eu) (n:Nat) (t:dR):Prop where
 use:∀c,t.use=some c→c<n∧∀p,t.cJ=some p→p∈fa ps c
 cJ:∀p,t.cJ=some p→p<n
 rd:∀i,i∈t.rd→(∀p,t.cJ=some p→p∈fa ps i)∧i<n∧∀c,t.use=some c→i∈fa ps c
def Jk{ps:List eu}{n:Nat}{t:dR}(h:xU ps n t=true):xt ps n t:=by
 unfold xU at h
 simp only[Bool.and_eq_true] at h
 obtain⟨⟨h1,h2⟩,h3⟩:=h
 have ah:∀i,vJ ps t i=true→∀p,t.cJ=some p→p∈fa ps i:=by
  intro i hi p hp
  unfold vJ at hi
  rw[hp] at hi
  exact mem_iff.1 hi
 refine⟨fun c hc=>?_,fun p hp=>?_,fun i hi=>?_⟩
 ·rw[hc] at h1
  simp only[Bool.and_eq_true] at h1
  exact⟨fY h1.2,ah c h1.1⟩
 ·rw[hp] at h2;exact fY h2
 ·have:=List.all_eq_true.1 h3 i hi
  simp only[Bool.and_eq_true] at this
  refine⟨ah i this.1.1,fY this.1.2,fun c hc=>?_⟩
  have h4:=this.2
  rw[hc] at h4
  exact mem_iff.1 h4
def me{α:Type}(p:α→Bool)(l:List α):l.Perm (l.filter p++l.filter (fun x=> !p x)):=(List.filter_append_perm p l).symm
section
variable {C:Ctx} {l:List Oper} {E0:Env} {ps:List eu} {ts:List dR} {Φ:Nat→Yv→Prop} {A:List ad}
structure VA (C:Ctx) (l:List Oper) (E0:Env) (ps:List eu) (ts:List dR) (Φ:Nat→Yv→Prop) (A:List ad) (listed:Array Bool) (a:Act) (w:World) (y:Yv):Prop where
 size:listed.size=l.length
 Aa:∀i,done listed i→∀j∈fa ps i,done listed j
 defers:a.defers=C.D
 wi:a.tmps.size=C.n
 Fq:∀i,done listed i→∀t,eA l i=some t→a.tmps[t]?=some (y i)
 Fz:∀s v,E0.get s=some v→(∀j,done listed j→eA l j≠some s)→a.tmps[s]?=some v
 Nu:∀i,done listed i→Φ i y
 inv:Inv C.w0 (e9 (ts.filter (ir listed)) y++A) w
def Tj (C:Ctx) (l:List Oper) (E0:Env) (ps:List eu) (ts:List dR) (A0:List ad) (Φ:Nat→Yv→Prop) (i:Nat):Prop:=
 ∀o p,l[i]?=some o→ps[i]?=some p→∀y M,(∀j∈p.gC,Φ j y)→
  Step C l.toArray o (tT l E0 p y) (e9 (iR ts i) y++(e9 (fo ts i) y++(M++A0))) (fun v L'=>Φ i (ek y i v)∧L'.Perm (e9 (im ts i) (ek y i v)++(e9 (fo ts i) y++(M++A0))))
def HB(hok:∀i,i<l.length→∃o p,l[i]?=some o∧ps[i]?=some p∧zK C l ps [] i o p)(htok:∀t∈ts,xt ps l.length t)(hlen:ps.length=l.length)
  (hobl:∀i,i<l.length→Tj C l E0 ps ts A Φ i) (hloc:∀i y y',(∀j,j=i∨j∈fa ps i→y j=y' j)→Φ i y→Φ i y')
  (hlocT:∀t∈ts,∀y y':Yv,(∀p,t.cJ=some p→∀j,j=p∨j∈fa ps p→y j=y' j)→t.a y=t.a y')
  {Q:Exit→Act→World→Prop} (hX:∀ch E L a w,gr C E a→Inv C.w0 L w→C.X ch L→Q (.panic ch) a w) (hQ:∀a w y,(∀i,i<l.length→Φ i y)→a.defers=C.D→a.tmps.size=C.n→(∀i,i<l.length→∀t,eA l i=some t→a.tmps[t]?=some (y i))→
   (∀s v,E0.get s=some v→(∀j,eA l j≠some s)→a.tmps[s]?=some v)→Inv C.w0 (e9 (xC ts) y++A) w→Q .normal a w):
  ∀(fuel:Nat) (listed:Array Bool) (a:Act) (w:World) (y:Yv),VA C l E0 ps ts Φ A listed a w y→
   ((List.range l.length).filter fun i=> !listed.getD i true).length≤fuel→wpAny C.P .any l.toArray Q fuel listed a w:=by
 have fin:∀(listed:Array Bool) (a:Act) (w:World) (y:Yv),VA C l E0 ps ts Φ A listed a w y→Region.ready .any l.toArray listed=[]→Q .normal a w:=by
  intro listed a w y hinv hr
  have hall:∀i,i<l.length→done listed i:=by
   intro i
   induction i using Nat.strongRecOn with
   |_ i ih=>
    intro hi
    obtain⟨o,p,ho,hp,ok⟩:=hok i hi
    have hlt:i<listed.size:=by rw[hinv.size];exact hi
    cases hd:listed.getD i true with
    |true=>unfold done;simp[hlt] at hd ⊢;exact hd
    |false=>
     exfalso
     have:i∈Region.ready .any l.toArray listed:=mem_ready.2 ⟨hd,o,by simpa using ho,fun e he hb=>?_⟩
     ·rw[hr] at this;cases this
     ·have hj:e.on∈m0 o:=List.mem_filterMap.2 ⟨e,by simpa using he,by simp[hb]⟩
      have hlt2:=ok.Xs _ hj
      exact ih e.on hlt2 omg
  have hlive:ts.filter (ir listed)=xC ts:=by
   unfold xC
   apply List.filter_congr
   intro t ht
   have hk:=htok t ht
   unfold ir
   have h1:(match t.cJ with|some p=>listed.getD p false|none=>true)=true:=by
    split
    ·rename_i p hp;exact hall p (hk.cJ p hp)
    ·rfl
   rw[h1,Bool.true_and]
   split
   ·rename_i c hc
    rw[show listed.getD c false=true from hall c (hk.use c hc).1,hc]
    rfl
   ·rename_i hc;rw[hc];rfl
  have hi:=hinv.inv
  rw[hlive] at hi
  exact hQ a w y (fun i hi=>hinv.Nu i (hall i hi)) hinv.defers hinv.wi (fun i hi=>hinv.Fq i (hall i hi)) (fun s v hs hne=>hinv.Fz s v hs (fun j _=>hne j)) hi
 intro fuel
 induction fuel with
 |zero=>
  intro listed a w y hinv hn
  have hr:Region.ready .any l.toArray listed=[]:=by
   apply List.eq_nil_iff_forall_not_mem.2
   intro i hi
   obtain⟨h1,o,ho,_⟩:=mem_ready.1 hi
   have hlt:i<l.length:=by
    have:l[i]?=some o:=by simpa using ho
    exact(List.getElem?_eq_some_iff.1 this).1
   have:i∈((List.range l.length).filter fun i=> !listed.getD i true):=List.mem_filter.2 ⟨List.mem_range.2 hlt,by simp only[h1];rfl⟩
   have h0:=List.eq_nil_of_length_eq_zero (Nat.le_zero.1 hn)
   rw[h0] at this
   cases this
  exact⟨hr,fin listed a w y hinv hr⟩
 |succ fuel ih=>
  intro listed a w y hinv hn
  refine⟨fin listed a w y hinv,fun i hi=>?_⟩
  have hlt:i<l.length:=by
   obtain⟨h1,o,ho,_⟩:=mem_ready.1 hi
   have:l[i]?=some o:=by simpa using ho
   exact(List.getElem?_eq_some_iff.1 this).1
  obtain⟨o,p,ho,hp,ok⟩:=hok i hlt
  obtain⟨hun,hb⟩:=CB ho hi
  have hnd:¬done listed i:=fun h=>by unfold done at h;rw[s7 hun] at h;cases h
  have hpa:fa ps i=p.gC:=by simp[fa,hp]
  have hanc:∀j∈p.gC,done listed j:=by
   intro j hj
   rcases(ok.gC j hj).2 with h|⟨k,hk,h⟩
   ·exact hb j h
   ·exact hinv.Aa k (hb k hk) j h
  have hancn:∀j,done listed j→i∉fa ps j:=fun j hj hm=>hnd (hinv.Aa j hj i hm)
  have hself:∀j,done listed j→j≠i:=fun j hj e=>hnd (e▸hj)
  have hagr:gr C (tT l E0 p y) a:=by
   refine⟨hinv.defers,hinv.wi,fun d v hd=>?_⟩
   have hm:=Env.get_mem hd
   unfold tT at hm
   rcases List.mem_append.1 hm with h|h
   ·obtain⟨j,hj,hj2⟩:=List.mem_filterMap.1 h
    split at hj2
    ·rename_i t ht
     cases hj2
     exact hinv.Fq j (hanc j (ok.jM j hj)) d ht
    ·cases hj2
   ·obtain⟨s,hs,hs2⟩:=List.mem_filterMap.1 h
    split at hs2
    ·rename_i u hu
     cases hs2
     refine hinv.Fz d v hu (fun j hj e=>?_)
     rcases ok.mX d hs j e with h|h
     ·exact hself j hj h
     ·exact hnd (hinv.Aa j hj i h)
    ·cases hs2
  have hdst:eA l i=o.dst:=by simp[eA,ho]
  have hilt:i<listed.size:=by rw[hinv.size];exact hlt
  have hset:∀j d,(listed.setIfInBounds i true).getD j d=if j=i then true else listed.getD j d:=by
   intro j d
   by_cases hij:i=j
   ·subst hij;simp[hilt]
   ·rw[getD_set_ne d hij,if_neg (fun e=>hij e.symm)]
  have hdone':∀j,done (listed.setIfInBounds i true) j↔j=i∨done listed j:=by
   intro j
   unfold done
   rw[hset]
   by_cases e:j=i<;>simp[e]
  have hcnt:((List.range l.length).filter fun j=> !(listed.setIfInBounds i true).getD j true).length≤fuel:=by
   have hsub:((List.range l.length).filter fun j=> !(listed.setIfInBounds i true).getD j true)=((List.range l.length).filter fun j=> !listed.getD j true).filter (fun j=> !(j==i)):=by
    rw[List.filter_filter]
    apply List.filter_congr
    intro j _
    rw[hset]
    by_cases e:j=i
    ·subst e;simp
    ·simp[e]
   have hmem:i∈((List.range l.length).filter fun j=> !listed.getD j true):=List.mem_filter.2 ⟨List.mem_range.2 hlt,by simp only[hun];rfl⟩
   rw[hsub]
   have hlt2:(((List.range l.length).filter fun j=> !listed.getD j true).filter (fun j=> !(j==i))).length<((List.range l.length).filter fun j=> !listed.getD j true).length:=
    List.length_filter_lt_length_iff_exists.2 ⟨i,hmem,by simp⟩
   omega
  let Lv:=ts.filter (ir listed)
  let rest:=(Lv.filter (fun t=> !(jD t.use i))).filter (fun t=> !(mem i t.rd))
  have hirr:i∉fa ps i:=by
   rw[hpa];intro h;exact absurd (ok.gC i h).1 (Nat.lt_irrefl _)
  have bydone:∀t∈ts,(∀q,t.cJ=some q→q∈fa ps i)→(match t.cJ with|some q=>listed.getD q false|none=>true)=true:=by
   intro t ht h
   split
   ·rename_i q hq;exact hanc q (by rw[←hpa];exact h q hq)
   ·rfl
  have hcl:∀t∈ts,jD t.use i=true→ir listed t=true:=by
   intro t ht hu
   have hu:=qB.1 hu
   have hk:=htok t ht
   unfold ir
   rw[bydone t ht (hk.use i hu).2,hu]
   have:listed.getD i false=false:=s7 hun
   simp[this]
  have hrl:∀t∈ts,mem i t.rd=true→ir listed t=true∧jD t.use i=false:=by
   intro t ht hr
   have hk:=(htok t ht).rd i (mem_iff.1 hr)
   have hnu:jD t.use i=false:=by
    cases e:jD t.use i with
    |false=>rfl
    |true=>exact absurd (hk.2.2 i (qB.1 e)) hirr
   refine⟨?_,hnu⟩
   unfold ir
   rw[bydone t ht hk.1,Bool.true_and]
   split
   ·rename_i c hc
    have:listed.getD c false=false:=by
     cases e:listed.getD c false with
     |false=>rfl
     |true=>exact absurd (hk.2.2 c hc) (hancn c e)
    rw[this];rfl
   ·rfl
  have hf1:Lv.filter (fun t=>jD t.use i)=iR ts i:=by
   show(ts.filter _).filter _=ts.filter _
   rw[List.filter_filter]
   apply List.filter_congr
   intro t ht
   cases e:jD t.use i with
   |false=>simp
   |true=>simp[hcl t ht e]
  have hf2:(Lv.filter (fun t=> !(jD t.use i))).filter (fun t=>mem i t.rd)=fo ts i:=by
   show((ts.filter _).filter _).filter _=ts.filter _
   rw[List.filter_filter,List.filter_filter]
   apply List.filter_congr
   intro t ht
   cases e:mem i t.rd with
   |false=>simp
   |true=>obtain⟨h1,h2⟩:=hrl t ht e;simp[h1,h2]
  have hperm1:Lv.Perm (iR ts i++(fo ts i++rest)):=by
   have h1:=me (fun t=>jD t.use i) Lv
   have h2:=me (fun t=>mem i t.rd) (Lv.filter (fun t=> !(jD t.use i)))
   rw[hf1] at h1
   rw[hf2] at h2
   exact h1.trans (List.Perm.append_left _ h2)
  have hperm2:(ts.filter (ir (listed.setIfInBounds i true))).Perm (im ts i++(fo ts i++rest)):=by
   have h1:=me (fun t=>jD t.cJ i) (ts.filter (ir (listed.setIfInBounds i true)))
   have e1:(ts.filter (ir (listed.setIfInBounds i true))).filter (fun t=>jD t.cJ i)=im ts i:=by
    rw[List.filter_filter]
    apply List.filter_congr
    intro t ht
    cases e:jD t.cJ i with
    |false=>simp
    |true=>
     have hbi:=qB.1 e
     have hk:=htok t ht
     unfold ir
     rw[hbi]
     simp only[hset,if_true,Bool.true_and]
     split
     ·rename_i c hc
      have hci:i∈fa ps c:=(hk.use c hc).2 i hbi
      have hne:c≠i:=fun e=>hirr (e▸hci)
      have:listed.getD c false=false:=by
       cases e:listed.getD c false with
       |false=>rfl
       |true=>exact absurd hci (hancn c e)
      simp[hne,this]
     ·rfl
   have e2:(ts.filter (ir (listed.setIfInBounds i true))).filter (fun t=> !(jD t.cJ i))=Lv.filter (fun t=> !(jD t.use i)):=by
    show _=(ts.filter _).filter _
    rw[List.filter_filter,List.filter_filter]
    apply List.filter_congr
    intro t ht
    unfold ir
    have hb1:(!(jD t.cJ i)&&(match t.cJ with|some p=>(listed.setIfInBounds i true).getD p false|none=>true))=(match t.cJ with|some p=>listed.getD p false|none=>true):=by
     split
     ·rename_i q hq
      rw[hq,hset]
      by_cases e:q=i
      ·subst e
       have:listed.getD q false=false:=s7 hun
       simp[jD,this]
      ·have:jD (some q) i=false:=by
        cases h:jD (some q) i with
        |false=>rfl
        |true=>have:=qB.1 h;simp at this;exact absurd this e
       simp[e,this]
     ·rename_i hq;rw[hq];rfl
    have hu1:(match t.use with|some c=> !((listed.setIfInBounds i true).getD c false)|none=>true)=(!(jD t.use i)&&(match t.use with|some c=> !(listed.getD c false)|none=>true)):=by
     split
     ·rename_i c hc
      rw[hc,hset]
      by_cases e:c=i
      ·subst e;simp[jD]
      ·have:jD (some c) i=false:=by
        cases h:jD (some c) i with
        |false=>rfl
        |true=>have:=qB.1 h;simp at this;exact absurd this e
       simp[e,this]
     ·rename_i hc;rw[hc];rfl
    rw[hu1,←hb1]
    simp only[Bool.and_assoc,Bool.and_left_comm]
   rw[e1,e2] at h1
   have h2:=me (fun t=>mem i t.rd) (Lv.filter (fun t=> !(jD t.use i)))
   rw[hf2] at h2
   exact h1.trans (List.Perm.append_left _ h2)
  have hsame:∀v,∀t∈ts,ir listed t=true→t.a (ek y i v)=t.a y:=by
   intro v t ht hl
   refine hlocT t ht _ _ (fun q hq j hj=>Bm ?_)
   have hqd:done listed q:=by
    unfold ir at hl
    rw[hq] at hl
    simp only[Bool.and_eq_true] at hl
    exact hl.1
   rcases hj with rfl|hj
   ·exact hself _ hqd
   ·exact hself _ (hinv.Aa q hqd j hj)
  have hrestT:∀t∈rest,t∈ts∧ir listed t=true:=by
   intro t ht
   have h1:=(List.mem_filter.1 (List.mem_filter.1 (List.mem_filter.1 ht).1).1)
   exact h1
  have hstep:=hobl i hlt o p ho hp y (e9 rest y) (fun j hj=>hinv.Nu j (hanc j hj))
  have hinv1:Inv C.w0 (e9 (iR ts i) y++(e9 (fo ts i) y++(e9 rest y++A))) w:=by
   refine hinv.inv.perm ?_
   have:=(List.Perm.map (fun t:dR=>t.a y) hperm1).append_right A
   simpa[e9,List.append_assoc] using this
  have hK:∀v L' w',(Φ i (ek y i v)∧L'.Perm (e9 (im ts i) (ek y i v)++(e9 (fo ts i) y++(e9 rest y++A))))→Inv C.w0 L' w'→wpAny C.P .any l.toArray Q fuel (listed.setIfInBounds i true) (a.put o.dst v) w':=by
   rintro v L' w' ⟨h1,h2⟩ hi'
   refine ih _ _ _ (ek y i v) ⟨by simp[hinv.size],?_,?_,?_,?_,?_,?_,?_⟩ hcnt
   ·intro j hj q hq
    rcases(hdone' j).1 hj with rfl|hj
    ·exact(hdone' q).2 (.inr (hanc q (by rw[←hpa];exact hq)))
    ·exact(hdone' q).2 (.inr (hinv.Aa j hj q hq))
   ·cases o.dst<;>exact hinv.defers
   ·cases o.dst<;>simp[Act.put,hinv.wi]
   ·intro j hj t ht
    rcases(hdone' j).1 hj with rfl|hj
    ·rw[hdst] at ht
     rw[ht,oD]
     have:=(ok.dst t ht).1
     simp[Act.put,hinv.wi,this]
    ·rw[Bm (hself j hj)]
     have hv:=hinv.Fq j hj t ht
     cases hod:o.dst with
     |none=>exact hv
     |some u=>
      have hne:u≠t:=fun e=>(ok.dst u hod).2 j (hself j hj) (e▸ht)
      simp only[Act.put]
      rw[Array.getElem?_setIfInBounds_ne hne]
      exact hv
   ·intro s v' hs hne
    have hv:=hinv.Fz s v' hs (fun j hj=>hne j ((hdone' j).2 (.inr hj)))
    cases hod:o.dst with
    |none=>exact hv
    |some u=>
     have hne2:u≠s:=fun e=>hne i ((hdone' i).2 (.inl rfl)) (by rw[hdst,hod,e])
     simp only[Act.put]
     rw[Array.getElem?_setIfInBounds_ne hne2]
     exact hv
   ·intro j hj
    rcases(hdone' j).1 hj with rfl|hj
    ·exact h1
    ·refine hloc j y _ (fun q hq=>(Bm ?_).symm) (hinv.Nu j hj)
     rcases hq with rfl|hq
     ·exact hself _ hj
     ·exact hself _ (hinv.Aa j hj q hq)
   ·refine(hi'.perm h2).perm ?_
    have hp2:=(List.Perm.map (fun t:dR=>t.a (ek y i v)) hperm2).append_right A
    have er:(fo ts i).map (fun t:dR=>t.a (ek y i v))=e9 (fo ts i) y:=List.map_congr_left (fun t ht=>by
     have:=List.mem_filter.1 ht
     exact hsame v t this.1 (hrl t this.1 this.2).1)
    have er2:rest.map (fun t:dR=>t.a (ek y i v))=e9 rest y:=List.map_congr_left (fun t ht=>hsame v t (hrestT t ht).1 (hrestT t ht).2)
    simp only[List.map_append,er,er2] at hp2
    refine List.Perm.trans ?_ hp2.symm
    simp[e9,List.append_assoc]
  have h5:=hstep a w (wpAny C.P .any l.toArray Q fuel (listed.setIfInBounds i true)) ⟨Q,hX⟩ hagr hinv1 hK
  unfold wpOp
  have ho':l.toArray[i]?=some o:=by simpa using ho
  simp only[ho']
  by_cases hw:Region.wanted o (yielded l.toArray a.tmps)=true
  ·rw[if_pos hw] at h5 ⊢;exact .inl h5
  ·rw[if_neg hw] at h5 ⊢;exact h5
def Uz{Q:QT}{id:Nat}(ps:List eu)(ts:List dR)(Φ:Nat→Yv→Prop){L:List ad}
  (hm:C.P.follows .mixedOrders=true) (hB:Cn C l ps ts=true) (hlen:ps.length=l.length) (h0:∃y0,L.Perm (e9 (sG ts) y0++A))
  (hloc:∀i y y',(∀j,j=i∨j∈fa ps i→y j=y' j)→Φ i y→Φ i y')
  (hlocT:∀t∈ts,∀y y':Yv,(∀p,t.cJ=some p→∀j,j=p∨j∈fa ps p→y j=y' j)→t.a y=t.a y')
  (hobl:∀i,i<l.length→Tj C l E0 ps ts A Φ i)
  (k:∀y,(∀i,i<l.length→Φ i y)→Q .normal (vC l y l.length E0) (e9 (xC ts) y++A)) (hX:∀ch E L,C.X ch L→Q (.panic ch) E L:=by exact fun _ _ _ h=>h):Wp C (.region id l.toArray true) Q E0 L:=by
 intro a w ha hi
 obtain⟨y0,h0⟩:=h0
 unfold Cn at hB
 simp only[Bool.and_eq_true] at hB
 have hok:∀i,i<l.length→∃o p,l[i]?=some o∧ps[i]?=some p∧zK C l ps [] i o p:=fun i hi=>zf (List.all_eq_true.1 hB.1 i (List.mem_range.2 hi))
 have htok:∀t∈ts,xt ps l.length t:=fun t ht=>Jk (List.all_eq_true.1 hB.2 t ht)
 refine wp_region_any hm ?_
 have hs:l.toArray.size=l.length:=by simp
 rw[hs]
 refine HB (E0:=E0) (Φ:=Φ) (A:=A) hok htok hlen hobl hloc hlocT (fun ch E L a w h1 h2 h3=>⟨E,L,h1,h2,hX ch E L h3⟩) ?_ l.length (Array.replicate l.length false) a _ y0 ?_ ?_
 ·intro a w y p2 p3 p4 p5 p6 p7
  refine⟨_,_,⟨p3,p4,?_⟩,p7,k y p2⟩
  have key:∀(n:Nat),n≤l.length→∀d v,(vC l y n E0).get d=some v→(∃i,i<n∧eA l i=some d∧v=y i)∨(E0.get d=some v∧∀i,i<n→eA l i≠some d):=by
   intro n
   induction n with
   |zero=>intro _ d v h;exact .inr ⟨h,fun i hi=>absurd hi omg⟩
   |succ n ih=>
    intro hn d v h
    simp only[vC] at h
    split at h
    ·rename_i t ht
     rw[Env.jv] at h
     by_cases e:t=d
     ·subst e;simp at h;exact .inl ⟨n,omg,ht,h.symm⟩
     ·simp only[e,if_false] at h
      rcases ih omg d v h with⟨i,hi,h1,h2⟩|⟨h1,h2⟩
      ·exact .inl ⟨i,omg,h1,h2⟩
      ·refine .inr ⟨h1,fun i hi=>?_⟩
       by_cases e2:i=n
       ·subst e2;rw[ht];intro e3;cases e3;exact e rfl
       ·exact h2 i omg
    ·rename_i ht
     rcases ih omg d v h with⟨i,hi,h1,h2⟩|⟨h1,h2⟩
     ·exact .inl ⟨i,omg,h1,h2⟩
     ·refine .inr ⟨h1,fun i hi=>?_⟩
      by_cases e2:i=n
      ·subst e2;rw[ht];simp
      ·exact h2 i omg
  intro d v h
  rcases key l.length (Nat.le_refl _) d v h with⟨i,hi,h1,rfl⟩|⟨h1,h2⟩
  ·exact p5 i hi d h1
  ·exact p6 d v h1 (fun j hj=>h2 j (uV hj) hj)
 ·have hnone:∀j,¬done (Array.replicate l.length false) j:=fun j h=>by
   unfold done at h
   rw[jN] at h
   cases h
  have hlive:ts.filter (ir (Array.replicate l.length false))=sG ts:=by
   unfold sG
   apply List.filter_congr
   intro t ht
   unfold ir
   cases h1:t.cJ with
   |some q=>simp only[jN,Bool.false_and];rfl
   |none=>
    simp only[Bool.true_and]
    cases h2:t.use with
    |some c=>simp only[jN];rfl
    |none=>rfl
  exact⟨by simp,fun i h=>absurd h (hnone i),ha.defers,ha.size,fun i h=>absurd h (hnone i),fun s v hs _=>ha.get s v hs,fun i h=>absurd h (hnone i),by
   rw[hlive]
   exact hi.drew.perm h0⟩
 ·exact Nat.le_trans (List.length_filter_le _ _) (by simp)
end
end Go.Sl
namespace Go.Sl
open Go.RowKit (Below)
structure iq where
 V:List (Yv→Value)
 P:List (Yv→Prop)
def iq.put (c:iq) (f:Yv→Value) (q:Yv→Prop):iq:=⟨f::c.V,q::c.P⟩
def lI (l:List Oper) (E0:Env) (p:eu) (i:Nat) (c:iq) (y:Yv):Env:=
 (p.jM.filterMap fun j=>match eA l j with|some t=>(match c.V[i-1-j]? with|some f=>some (t,f y)|none=>none)|none=>none)++p.mX.filterMap fun s=>match E0.get s with|some v=>some (s,v)|none=>none
def vv (l:List Oper) (n:Nat) (c:iq) (y:Yv):Nat→Env→Env
 |0,E=>E
 |i+1,E=>match eA l i with|some t=>(match c.V[n-1-i]? with|some f=>(t,f y)::vv l n c y i E|none=>vv l n c y i E)|none=>vv l n c y i E
structure dI (c:iq) (i:Nat) (j:Nat) (y:Yv):Prop where
 val:∃f q,c.V[i-1-j]?=some f∧c.P[i-1-j]?=some q∧y j=f y∧q y
def dI.fact{c:iq}{i j:Nat}{y:Yv}(h:dI c i j y){q:Yv→Prop}(hq:c.P[i-1-j]?=some q):q y:=by
 obtain⟨f,q',_,e,_,k⟩:=h.val
 rw[hq] at e
 cases e
 exact k
section
variable {C:Ctx} {E0:Env} {Q:QT} {L:List ad}
def iD (C:Ctx) (l:List Oper) (E0:Env) (ts:List dR) (A0:List ad):Nat→iq→List Oper→List eu→(iq→Prop)→Prop
 |_,c,[],[],K=>K c
 |i,c,o::os,p::ps,K=>∃(f:Yv→Value) (q:Yv→Prop),Loc i p f∧Loc i p q∧
   (∀y M,(∀j∈p.gC,dI c i j y)→Step C l.toArray o (lI l E0 p i c y) (e9 (iR ts i) y++(e9 (fo ts i) y++(M++A0))) (fun v L'=>f (ek y i v)=v∧q (ek y i v)∧L'.Perm (e9 (im ts i) (ek y i v)++(e9 (fo ts i) y++(M++A0)))))∧iD C l E0 ts A0 (i+1) (c.put f q) os ps K
 |_,_,_,_,_=>False
section
variable {l:List Oper} {ts:List dR} {i:Nat} {c:iq} {o:Oper} {os:List Oper} {ps:List eu} {f:Yv→Value} {K:iq→Prop} {A0:List ad}
def cZ(h:K c):iD C l E0 ts A0 i c [] [] K:=h
def dv{p:eu}(E:Yv→Env)(hE:∀y,lI l E0 p i c y=E y)(hc:iR ts i=[])(hr:fo ts i=[])(hp:im ts i=[])(h:∀y,(∀j∈p.gC,dI c i j y)→∀L,Step C l.toArray o (E y) L (fun v' L'=>v'=f y∧L'=L))(hf:∀y v,f (ek y i v)=f y)(hloc:Loc i p f)
  (r:iD C l E0 ts A0 (i+1) (c.put f (fun _=>True)) os ps K):iD C l E0 ts A0 i c (o::os) (p::ps) K:=
 ⟨f,(fun _=>True),hloc,fun _ _ _=>rfl,fun y M h3 a w K' Q ha hi hK=>by
  rw[hE] at ha
  simp only[hc,hr,hp,e9,List.map_nil,List.nil_append] at hi hK
  exact h y h3 _ a w K' Q ha hi (fun v' L' w' ⟨e1,e2⟩ hi'=>hK v' L' w' ⟨by rw[hf,e1],trivial,by rw[e2]⟩ hi'),r⟩
def lM{p:eu}(R:Yv→List ad)(E:Yv→Env)(hE:∀y,lI l E0 p i c y=E y)(hc:iR ts i=[])(hr:∀y,e9 (fo ts i) y=R y)(hp:im ts i=[])(h:∀y A,(∀j∈p.gC,dI c i j y)→Step C l.toArray o (E y) (R y++A) (fun v' L'=>v'=f y∧L'=R y++A))(hf:∀y v,f (ek y i v)=f y)(hloc:Loc i p f)
  (r:iD C l E0 ts A0 (i+1) (c.put f (fun _=>True)) os ps K):iD C l E0 ts A0 i c (o::os) (p::ps) K:=
 ⟨f,(fun _=>True),hloc,fun _ _ _=>rfl,fun y M h3 a w K' Q ha hi hK=>by
  rw[hE] at ha
  rw[hc,hr] at hi
  rw[hp,hr] at hK
  exact h y (M++A0) h3 a w K' Q ha hi (fun v' L' w' ⟨e1,e2⟩ hi'=>hK v' L' w' ⟨by rw[hf,e1],trivial,by rw[e2];exact .refl _⟩ hi'),r⟩
def O2{p:eu}(T R M:Yv→List ad)(E:Yv→Env)(hE:∀y,lI l E0 p i c y=E y)(hc:∀y,e9 (iR ts i) y=T y)(hr:∀y,e9 (fo ts i) y=R y)(hp:∀y,e9 (im ts i) y=M y)
  (h:∀y A,(∀j∈p.gC,dI c i j y)→Step C l.toArray o (E y) (T y++(R y++A)) (fun v' L'=>v'=f y∧L'.Perm (M y++(R y++A)))) (hf:∀y v,f (ek y i v)=f y) (hM:∀y v,M (ek y i v)=M y) (hloc:Loc i p f)
  (r:iD C l E0 ts A0 (i+1) (c.put f (fun _=>True)) os ps K):iD C l E0 ts A0 i c (o::os) (p::ps) K:=
 ⟨f,(fun _=>True),hloc,fun _ _ _=>rfl,fun y M h3 a w K' Q ha hi hK=>by
  rw[hE] at ha
  rw[hc,hr] at hi
  exact h y (M++A0) h3 a w K' Q ha hi (fun v' L' w' ⟨e1,e2⟩ hi'=>hK v' L' w' ⟨by rw[hf,e1],trivial,by rw[hp,hM,hr];exact e2⟩ hi'),r⟩
def fh{p:eu}(g:Yv→Value→Value)(Pv:Yv→Value→Prop)(T R:Yv→List ad)(M:Yv→Value→List ad)(E:Yv→Env)(hE:∀y,lI l E0 p i c y=E y)(hc:∀y,e9 (iR ts i) y=T y)(hr:∀y,e9 (fo ts i) y=R y)(hp:∀y,e9 (im ts i) y=M y (y i))
  (h:∀y A,(∀j∈p.gC,dI c i j y)→Step C l.toArray o (E y) (T y++(R y++A)) (fun v' L'=>v'=g y v'∧Pv y v'∧L'.Perm (M y v'++(R y++A)))) (hg:∀y v u,g (ek y i v) u=g y u) (hP:∀y v u,Pv (ek y i v) u=Pv y u) (hM:∀y v u,M (ek y i v) u=M y u) (hloc:Loc i p (fun y=>g y (y i))) (hlocP:Loc i p (fun y=>Pv y (y i)))
  (r:iD C l E0 ts A0 (i+1) (c.put (fun y=>g y (y i)) (fun y=>Pv y (y i))) os ps K):iD C l E0 ts A0 i c (o::os) (p::ps) K:=
 ⟨(fun y=>g y (y i)),(fun y=>Pv y (y i)),hloc,hlocP,fun y M h3 a w K' Q ha hi hK=>by
  rw[hE] at ha
  rw[hc,hr] at hi
  exact h y (M++A0) h3 a w K' Q ha hi (fun v' L' w' ⟨e1,e2,e3⟩ hi'=>hK v' L' w' ⟨by show g (ek y i v') (ek y i v' i)=v';rw[hg,oD];exact e1.symm,by show Pv (ek y i v') (ek y i v' i);rw[hP,oD];exact e2,by rw[hp,hM,oD,hr];exact e3⟩ hi'),r⟩
end
def iD.get{l:List Oper}{ts:List dR}{A0:List ad}{K:iq→Prop}:∀ {i:Nat} {c:iq} {os:List Oper} {ps:List eu},iD C l E0 ts A0 i c os ps K→c.V.length=i→c.P.length=i→(∀(j:Nat) (p:eu),ps[j]?=some p→∀d,d∈p.jM∨d∈p.gC→d<i+j)→
  ∃(fs:List (Yv→Value)) (qs:List (Yv→Prop)),fs.length=os.length∧qs.length=os.length∧K ⟨fs.reverse++c.V,qs.reverse++c.P⟩∧
   ∀j o p f q,os[j]?=some o→ps[j]?=some p→fs[j]?=some f→qs[j]?=some q→Loc (i+j) p f∧Loc (i+j) p q∧
    (∀y M,(∀d∈p.gC,∃f' q',(c.V.reverse++fs)[d]?=some f'∧(c.P.reverse++qs)[d]?=some q'∧y d=f' y∧q' y)→Step C l.toArray o (yu l E0 p (c.V.reverse++fs) y) (e9 (iR ts (i+j)) y++(e9 (fo ts (i+j)) y++(M++A0))) (fun v L'=>f (ek y (i+j) v)=v∧q (ek y (i+j) v)∧L'.Perm (e9 (im ts (i+j)) (ek y (i+j) v)++(e9 (fo ts (i+j)) y++(M++A0)))))
 |i,c,[],[],h,_,_,_=>⟨[],[],rfl,rfl,h,fun j o p f q h=>by simp at h⟩
 |i,c,o::os,p::ps,⟨f,q,h1,h2,h4,h5⟩,hV,hP,hd=>by
  obtain⟨fs,qs,l1,l2,hK,hrest⟩:=iD.get h5 (by simp[iq.put,hV]) (by simp[iq.put,hP]) (fun j p hp d hdd=>by have:=hd (j+1) p (by simpa using hp) d hdd;omega)
  have e1:(c.put f q).V.reverse++fs=c.V.reverse++f::fs:=by simp[iq.put]
  have e2:(c.put f q).P.reverse++qs=c.P.reverse++q::qs:=by simp[iq.put]
  rw[e1,e2] at hrest
  refine⟨f::fs,q::qs,by simp[l1],by simp[l2],by simpa[iq.put] using hK,fun j o' p' f' q' ho hp hf hq=>?_⟩
  cases j with
  |succ j=>
   rw[show i+(j+1)=i+1+j by omega]
   exact hrest j o' p' f' q' (by simpa using ho) (by simpa using hp) (by simpa using hf) (by simpa using hq)
  |zero=>
   simp at ho hp hf hq
   subst ho;subst hp;subst hf;subst hq
   refine⟨h1,h2,fun y A hkn=>?_⟩
   have hd0:=hd 0 p (by simp)
   have get0:∀ {β:Type} (xs ys:List β) (x:β) (d:Nat),xs.length=i→d<i→(xs.reverse++x::ys)[d]?=xs[i-1-d]?:=by
    intro β xs ys x d hx hlt
    rw[List.getElem?_append_left (by simp;omega),List.getElem?_reverse omg,hx]
   have henv:yu l E0 p (c.V.reverse++f::fs) y=lI l E0 p i c y:=by
    unfold yu lI
    congr 1
    have hdd:∀d∈p.jM,d<i:=fun d hd=>by have:=hd0 d (.inl hd);omega
    revert hdd
    generalize p.jM=ds
    intro hdd
    induction ds with
    |nil=>rfl
    |cons d ds ih=>
     simp only[List.filterMap_cons,get0 c.V fs f d hV (hdd d (by simp))]
     rw[ih (fun d hd=>hdd d (by simp[hd]))]<;>(cases eA l d with|none=>rfl|some t=>cases c.V[i-1-d]?<;>rfl)
   rw[henv]
   refine h4 y A (fun j hj=>⟨?_⟩)
   obtain⟨f',q',e1,e2,e3,e4⟩:=hkn j hj
   have hlt:=hd0 j (.inr hj)
   rw[get0 c.V fs f j hV omg] at e1
   rw[get0 c.P qs q j hP omg] at e2
   exact⟨f',q',e1,e2,e3,e4⟩
 |i,c,[],p::ps,h,_,_,_=>h.elim
 |i,c,o::os,[],h,_,_,_=>h.elim
def vg (ps:List eu) (ts:List dR):Prop:=∀t∈ts,∀y y':Yv,(∀p,t.cJ=some p→∀j,j=p∨j∈fa ps p→y j=y' j)→t.a y=t.a y'
def fw{ps:List eu}:vg ps []:=fun t h=>by cases h
def aU{ps:List eu}{ts:List dR}{u:Option Nat}{r:List Nat}(a:ad)(h:vg ps ts):vg ps (⟨fun _=>a,none,u,r⟩::ts):=fun t ht y y' hy=>by
 rcases List.mem_cons.1 ht with rfl|ht
 ·rfl
 ·exact h t ht y y' hy
def dq{ps:List eu}{ts:List dR}{u:Option Nat}{r:List Nat}{p:Nat}{a:Yv→ad}(gC:List Nat)(ha:fa ps p=gC)(h1:∀y y':Yv,(∀j,j=p∨j∈gC→y j=y' j)→a y=a y')(h:vg ps ts):vg ps (⟨a,some p,u,r⟩::ts):=fun t ht y y' hy=>by
 rcases List.mem_cons.1 ht with rfl|ht
 ·exact h1 y y' (fun j hj=>hy p rfl j (by rw[ha];exact hj))
 ·exact h t ht y y' hy
def jE{l:List Oper}{id:Nat}(ps:List eu)(ts:List dR)(A:List ad)(hm:C.P.follows .mixedOrders=true)(hB:Cn C l ps ts=true)(hps:ps.length=l.length)
  (h0:∀y,L.Perm (e9 (sG ts) y++A)) (hlocT:vg ps ts)
  (how:iD C l E0 ts A 0 ⟨[],[]⟩ l ps (fun c=>∀y,(∀j,j<l.length→dI c l.length j y)→Q .normal (vv l l.length c y l.length E0) (e9 (xC ts) y++A))) (hX:∀ch E L,C.X ch L→Q (.panic ch) E L:=by exact fun _ _ _ h=>h):Wp C (.region id l.toArray true) Q E0 L:=by
 have hpar:∀(j:Nat),j<l.length→∃o p,l[j]?=some o∧ps[j]?=some p∧zK C l ps [] j o p:=fun j hj=>by
  unfold Cn at hB
  simp only[Bool.and_eq_true] at hB
  exact zf (List.all_eq_true.1 hB.1 j (List.mem_range.2 hj))
 have hdeps:∀(j:Nat) (p:eu),ps[j]?=some p→∀d,d∈p.jM∨d∈p.gC→d<0+j:=by
  intro j p hp d hd
  have hj:j<l.length:=by rw[←hps];exact(List.getElem?_eq_some_iff.1 hp).1
  obtain⟨o',p',ho',hp',ok⟩:=hpar j hj
  rw[hp] at hp'
  cases hp'
  have:=(ok.gC d (hd.elim (ok.jM d) (fun h=>h))).1
  omega
 obtain⟨V,P,lV,lP,hk,hget⟩:=how.get rfl rfl hdeps
 simp only[List.reverse_nil,List.nil_append,List.append_nil] at hk hget
 have hVP:∀i,i<l.length→∃p f q,ps[i]?=some p∧V[i]?=some f∧P[i]?=some q:=fun i hi=>⟨ps[i],V[i],P[i],List.getElem?_eq_getElem omg,List.getElem?_eq_getElem omg,List.getElem?_eq_getElem omg⟩
 refine Uz (A:=A) (hX:=hX) ps ts (fun i y=>∃f q,V[i]?=some f∧P[i]?=some q∧y i=f y∧q y) hm hB hps ⟨fun _=>undef,h0 _⟩ ?_ hlocT ?_ ?_
 ·rintro i y y' h ⟨f,q,e1,e2,e3,e4⟩
  have hi:i<l.length:=by rw[←lV];exact(List.getElem?_eq_some_iff.1 e1).1
  obtain⟨p,f',q',hp,hf,hq⟩:=hVP i hi
  obtain⟨h1,h2,_⟩:=hget i _ p f q (List.getElem?_eq_getElem hi) hp e1 e2
  rw[Nat.zero_add] at h1 h2
  have hanc:∀j,j=i∨j∈p.gC→y j=y' j:=fun j hj=>h j (hj.imp (fun h=>h) (fun h=>by simp[fa,hp,h]))
  exact⟨f,q,e1,e2,by rw[←hanc i (.inl rfl),e3];exact h1 y y' hanc,by rw[←h2 y y' hanc];exact e4⟩
 ·intro i hi o p ho hp y A' h3
  obtain⟨p',f,q,hp',hf,hq⟩:=hVP i hi
  rw[hp] at hp'
  cases hp'
  have hdep:∀j∈p.jM,j∈p.gC:=by
   obtain⟨o',p',ho',hp',ok⟩:=hpar i hi
   rw[hp] at hp'
   cases hp'
   exact ok.jM
  have henv:tT l E0 p y=yu l E0 p V y:=by
   unfold tT yu
   congr 1
   revert hdep
   generalize p.jM=ds
   intro hdep
   induction ds with
   |nil=>rfl
   |cons j ds ih=>
    obtain⟨fj,qj,e1,e2,e3,e4⟩:=h3 j (hdep j (by simp))
    simp only[List.filterMap_cons]
    cases hd:eA l j with
    |none=>simpa using ih (fun j hj=>hdep j (by simp[hj]))
    |some t=>
     simp only[e1,e3]
     rw[ih (fun j hj=>hdep j (by simp[hj]))]
  rw[henv]
  obtain⟨_,_,hst⟩:=hget i o p f q ho hp hf hq
  rw[Nat.zero_add] at hst
  intro a w K Qx ha hinv hK
  refine hst y A' h3 a w K Qx ha hinv ?_
  rintro v' M w' ⟨e1,e2,hM⟩ hi'
  exact hK v' M w' ⟨⟨f,q,hf,hq,by rw[oD,e1],e2⟩,hM⟩ hi'
 ·intro y hy
  have rev:∀ {β:Type} (xs:List β) (j:Nat),xs.length=l.length→j<l.length→xs.reverse[l.length-1-j]?=xs[j]?:=by
   intro β xs j hx hj
   rw[List.getElem?_reverse omg]
   congr 1
   omega
  have h:=hk y (fun j hj=>by
   obtain⟨f,q,e1,e2,e3,e4⟩:=hy j hj
   exact⟨f,q,by rw[rev V j lV hj];exact e1,by rw[rev P j lP hj];exact e2,e3,e4⟩)
  have hfin:∀n,n≤l.length→vv l l.length ⟨V.reverse,P.reverse⟩ y n E0=vC l y n E0:=by
   intro n
   induction n with
   |zero=>intro _;rfl
   |succ n ih=>
    intro hn
    obtain⟨f,q,e1,e2,e3,e4⟩:=hy n omg
    simp only[vv,vC]
    rw[ih omg,rev V n lV omg,e1,e3]<;>(cases eA l n<;>rfl)
  rw[hfin _ (Nat.le_refl _)] at h
  exact h
end
end Go.Sl
namespace Go.Sl
def ZM{A B0 B1 B2 B3 B4 B5 B6 B7:ad}{L:List ad}:A∈B0::B1::B2::B3::B4::B5::B6::B7::A::L:=.tail _ MI
def Nd{A B0 B1 B2 B3 B4 B5 B6 B7:ad}{L:List ad}:ij (B0::B1::B2::B3::B4::B5::B6::B7::A::L) A (B0::B1::B2::B3::B4::B5::B6::B7::L):=.tail IG
def Zt{A A' B0 B1 B2 B3 B4 B5 B6 B7:ad}{L:List ad}:jU (B0::B1::B2::B3::B4::B5::B6::B7::A::L) A A' (B0::B1::B2::B3::B4::B5::B6::B7::A'::L):=.tail pp7
def mm9{A B0 B1 B2 B3 B4 B5 B6 B7 B8:ad}{L:List ad}:A∈B0::B1::B2::B3::B4::B5::B6::B7::B8::A::L:=.tail _ ZM
def Y6{A B0 B1 B2 B3 B4 B5 B6 B7 B8:ad}{L:List ad}:ij (B0::B1::B2::B3::B4::B5::B6::B7::B8::A::L) A (B0::B1::B2::B3::B4::B5::B6::B7::B8::L):=.tail Nd
def pp9{A A' B0 B1 B2 B3 B4 B5 B6 B7 B8:ad}{L:List ad}:jU (B0::B1::B2::B3::B4::B5::B6::B7::B8::A::L) A A' (B0::B1::B2::B3::B4::B5::B6::B7::B8::A'::L):=.tail Zt
def acD{A B0 B1 B2 B3 B4 B5 B6 B7 B8 B9:ad}{L:List ad}:ij (B0::B1::B2::B3::B4::B5::B6::B7::B8::B9::A::L) A (B0::B1::B2::B3::B4::B5::B6::B7::B8::B9::L):=.tail Y6
def dd9{B0 B1 B2 B3 B4 B5 B6 B7 B8:ad}{L:List ad}:Drop (B0::B1::B2::B3::B4::B5::B6::B7::B8::L) L:=.skip Ng
def VO{B0 B1 B2 B3 B4 B5 B6 B7 B8 B9:ad}{L:List ad}:Drop (B0::B1::B2::B3::B4::B5::B6::B7::B8::B9::L) L:=.skip dd9
section
variable {C:Ctx} {E:Env} {L F G:List ad} {ops:Array Oper} {d:Option Nat} {ty:TypeId} {pos:String} {aft:Array Edge} {op:Op} {o:Oper} {α:Type} {c:Ec α}
def uj{n:Nat}{l:List α}(h:lk C op ty E L (fun v L'=>∃p' c',v=.slice p' n c'∧L'=Row c p' n c' l::F))(hF:F.Perm G):
    Step C ops ⟨d,op,ty,pos,aft,none⟩ E L (fun v L'=>v=.slice (ej v) n (fT v)∧True∧L'.Perm ([Row c (ej v) n (fT v) l]++G)):=
  yf fun d pos aft g a w K Q ha hi hK=>h d pos aft g a w K Q ha hi fun v L' w' ⟨p,c',e1,e2⟩ hi'=>hK v L' w' (by subst e1;subst e2;exact⟨rfl,trivial,List.Perm.cons _ hF⟩) hi'
def eG:Value→Nat|.pointer (some a)=>a.block|_=>0
def CT{n m:Nat}{l:List α}(h:lk C op ty E L (fun v L'=>∃b,v=.slice (soz b) n m∧L'=Row c (soz b) n m l::L)):
    Step C ops ⟨d,op,ty,pos,aft,none⟩ E L (fun v L'=>v=.slice (some ⟨iK (ej v),0,none⟩) n m∧True∧L'.Perm ([Row c (some ⟨iK (ej v),0,none⟩) n m l]++L)):=
  yf fun d pos aft g a w K Q ha hi hK=>h d pos aft g a w K Q ha hi fun v L' w' ⟨b,e1,e2⟩ hi'=>hK v L' w' (by subst e1;subst e2;exact⟨rfl,trivial,List.Perm.refl _⟩) hi'
def pf{t:TypeId}{cs:List Value}(h:lk C op ty E L (fun v L'=>∃b,v=.pointer (soz b)∧L'=ai b t cs::L)):
    Step C ops ⟨d,op,ty,pos,aft,none⟩ E L (fun v L'=>v=.pointer (some ⟨eG v,0,none⟩)∧True∧L'.Perm ([ai (eG v) t cs]++L)):=
  yf fun d pos aft g a w K Q ha hi hK=>h d pos aft g a w K Q ha hi fun v L' w' ⟨b,e1,e2⟩ hi'=>hK v L' w' (by subst e1;subst e2;exact⟨rfl,trivial,List.Perm.refl _⟩) hi'
def aO{f:FuncId}{args:List Operand}{tys:Array TypeId}{vs:List Value}{Pre Post:List ad}{R:Value→List ad→Prop}{v0:Value}(hS:aA C.P f vs Pre (aF R))(hb:az C.P f=true)(hE:iG E args=some vs)(hL:fG L Pre F)(hR:∀v G,R v G→v=v0∧G.Perm Post):
    Step C ops ⟨d,.call ⟨.value (.func f),args.toArray,tys⟩,ty,pos,aft,none⟩ E L (fun v L'=>v=v0∧L'.Perm (Post++F)):=
  tK hS hb hE hL fun v G hr=>⟨(hR v G hr).1,(hR v G hr).2.append_right F⟩
end
end Go.Sl
namespace Go.Sl
def aeN (P:Program) (f:FuncId) (e:Array Value→Sem Value):Prop:=∃fn,P.funcs[f]?=some fn∧(fn.name== "runtime.NumGoroutine")=false∧fn.body.isNone=true∧Extern.findNext fn=none∧Extern.find fn=some e
end Go.Sl
namespace Go.Sl
section
variable {C:Ctx} {Q:QT} {E:Env} {L:List ad} {ops:Array Oper} {rest:List Oper} {d:Nat} {ty:TypeId} {pos:String} {aft:Array Edge} {op:Op}
def tz{a:Act}{j:Nat}{want:Bool}{o oj:Oper}{t:Nat}(ha:gr C E a)(h1:ops[j]?=some oj)(h2:oj.dst=some t)(h3:E.get t=some undef)(hg:o.guard=some (j,want)):Region.wanted o (yielded ops a.tmps)=false:=by
  have:=ha.get t _ h3
  simp[Region.wanted,hg,yielded,h1,h2,this,undef]
def yr{j t:Nat}{want:Bool}{oj:Oper}(h1:ops[j]?=some oj)(h2:oj.dst=some t)(h3:E.get t=some undef)(hd:Nat.blt d C.n=true)(h:dr C ops rest Q ((d,undef)::E) L):dr C ops (⟨some d,op,ty,pos,aft,some (j,want)⟩::rest) Q E L:=by
  intro a w ha hi
  have hw:=tz (o:=⟨some d,op,ty,pos,aft,some (j,want)⟩) ha h1 h2 h3 rfl
  unfold wpList
  rw[if_neg (by rw[hw];simp)]
  exact h _ _ (ha.put (fY hd) _) hi
end
end Go.Sl
namespace Go.Sl
section
variable {C:Ctx} {Q:QT} {E:Env} {L F:List ad} {ops:Array Oper} {rest:List Oper} {d:Option Nat} {ty:TypeId} {pos:String} {aft:Array Edge}
def nD{c:Code}{A:ad}{ι:Sort _}{K:ι→Prop}{B:ι→List ad}(hr:ij L A F)(hA:∀h,A C.w0 h→∃i,K i∧cY C.w0 (B i) h)(k:∀i,K i→Wp C c Q E (B i++F)):Wp C c Q E L:=Uh hr.perm (EU hA k)
def G4{A:ad}{ι:Sort _}{K:ι→Prop}{B:ι→List ad}(hr:ij L A F)(hA:∀h,A C.w0 h→∃i,K i∧cY C.w0 (B i) h)(k:∀i,K i→dr C ops rest Q E (B i++F)):dr C ops rest Q E L:=BK hr.perm (Oo hA k)
def zn{α:Type}{c:Ec α}{n:Nat}{l:List α}{f:FuncId}{args:List Operand}{tys:Array TypeId}{vs:List Value}{Pre Post:List ad}(hS:aA C.P f vs Pre (aF fun v G=>∃p c',v=.slice p n c'∧G=Row c p n c' l::Post))(hb:az C.P f=true)(hE:iG E args=some vs)(hL:fG L Pre F):
    Step C ops ⟨d,.call ⟨.value (.func f),args.toArray,tys⟩,ty,pos,aft,none⟩ E L (fun v L'=>v=.slice (ej v) n (fT v)∧True∧L'.Perm ((Row c (ej v) n (fT v) l::Post)++F)):=
  tK hS hb hE hL fun v G ⟨p,c',e1,e2⟩=>by subst e1;subst e2;exact⟨rfl,trivial,.refl _⟩
end
end Go.Sl
namespace Go.Sl
section
variable {C:Ctx} {E:Env} {L F:List ad} {ops:Array Oper} {d:Option Nat} {ty:TypeId} {pos:String} {aft:Array Edge}
def lN{f:FuncId}{t:Nat}{args:List Operand}{tys:Array TypeId}{vs fs cs:List Value}{Pre Post:List ad}{R:Value→List ad→Prop}{v0:Value}(hS:aA C.P f (fs++vs++cs) Pre (aF R))(hb:az C.P f=true)(ht:E.get t=some (.func (.func f) fs.toArray cs.toArray))(hE:iG E args=some vs)(hL:fG L Pre F)(hR:∀v G,R v G→v=v0∧G.Perm Post):
    Step C ops ⟨d,.call ⟨.value (.tmp t),args.toArray,tys⟩,ty,pos,aft,none⟩ E L (fun v L'=>v=v0∧L'.Perm (Post++F)):=by
  intro a w K Qx ha hi hK
  rw[if_pos (by simp[Region.wanted])]
  have hargs:=ha.iG hE
  have hev:=ha.eval (x:=.tmp t) ht
  have hr:(execOp a.eval ⟨d,.call ⟨.value (.tmp t),args.toArray,tys⟩,ty,pos,aft,none⟩).run C.P w=.ok (.enter f (fs++vs++cs).toArray) w:=by
    simp only[execOp,resolve,hargs,hev,Deferred.ofValue,invoke,Sem.run_bind,Sem.run_pure,Result.andThen_ok,gM hb]
    simp
  unfold Oper.wp
  rw[hr]
  refine(hS C.w0 F w (hi.perm hL.perm)).mono ?_
  rintro e w' ⟨G,h1,v,rfl,h2⟩
  obtain⟨h3,h4⟩:=hR v G h2
  exact hK v (G++F) w' ⟨h3,h4.append_right F⟩ h1
end
def FY{n:Int}(h1:0≤n)(h2:n<18446744073709551616):IntKind.u64.wrap n=n:=by
  have e:IntKind.u64.wrap n=n%18446744073709551616:=by simp[IntKind.wrap,IntKind.bits,IntKind.signed]
  rw[e];omega
def acr{m:Int}(h:0≤m):m.fdiv (2^(min (1:Int).toNat IntKind.u64.bits))=m/2:=by
  rw[show min (1:Int).toNat IntKind.u64.bits=1 from rfl,Int.fdiv_eq_ediv_of_nonneg _ dec]
  rfl
def nK (a b:Int):Int:=if a<b then-1 else if b<a then 1 else 0
def kE{a b:Int}:nK a b<0↔a<b:=by
  unfold nK;split
  · simp;assumption
  · split<;>simp<;>omega
end Go.Sl
namespace Go.Sl
def gP{α:Type}{c:Ec α}{Pd:α→Prop}{l:List α}{e:Int}{k:Nat}(h:e.toNat=k)(hp:Pd (l.getD k c.d)):Pd (c.g l e):=by subst h;exact hp
def gE{α:Type}{c:Ec α}{l:List α}{e:Int}(k:Nat)(h:e.toNat=k):c.g l e=l.getD k c.d:=by subst h;rfl
end Go.Sl
namespace Go.Sl
def CA (pre:List Value) (k:IntKind) (xs:List Int) (post:List Value):List Value:=pre++(ints k xs++post)
def R0{pre post:List Value}{k:IntKind}{xs:List Int}{j:Nat}(h:j<xs.length):(CA pre k xs post)[pre.length+j]?=some (.int k (xs.getD j 0)):=by
  unfold CA
  rw[List.getElem?_append_right omg,show pre.length+j-pre.length=j by omega,List.getElem?_append_left (by simpa[ints] using h),GN h]
def Ru{pre post:List Value}{k:IntKind}{xs:List Int}{n i:Nat}(h:xs.length=n):(CA pre k xs post)[pre.length+n+i]?=post[i]?:=by
  unfold CA
  rw[List.getElem?_append_right omg,List.getElem?_append_right (by simp[ints];omega)]
  congr 1
  simp[ints];omega
def Ww{pre post:List Value}{k:IntKind}{xs:List Int}{j:Nat}{m:Int}(h:j<xs.length):(CA pre k xs post).set (pre.length+j) (.int k m)=CA pre k (xs.set j m) post:=by
  unfold CA
  rw[List.set_append_right _ _ omg,show pre.length+j-pre.length=j by omega,List.set_append_left _ _ (by simpa[ints] using h),ints_set]
def Pz{pre post:List Value}{k:IntKind}{xs:List Int}{n i:Nat}{v:Value}(h:xs.length=n):(CA pre k xs post).set (pre.length+n+i) v=CA pre k xs (post.set i v):=by
  unfold CA
  rw[List.set_append_right _ _ omg,List.set_append_right _ _ (by simp[ints];omega)]
  congr 3
  simp[ints];omega
def Ix(pre post:List Value)(k:IntKind)(xs:List Int):(CA pre k xs post).length=pre.length+xs.length+post.length:=by
  unfold CA;simp[ints];omega
section
variable {C:Ctx} {E:Env} {L L':List ad} {ty:TypeId} {v:Value} {pre post post':List Value} {k:IntKind} {xs:List Int}
def eh{x:Operand}{t b q T:Nat}(i:Int)(hs:da C.P t=true)(hx:au E x=some (.pointer (some ⟨b,q,none⟩)))(hm:ai b T (CA pre k xs post)∈L)(hq:q=pre.length+i.toNat)(h0:0≤i)(hlt:i<xs.length):cx C (.load t x) ty E L (.int k (xs.getD i.toNat 0)) L:=
  aB hs hx hm (by rw[hq,R0 omg])
def jJ{x:Operand}{t b q T n:Nat}(i:Nat)(hs:da C.P t=true)(hx:au E x=some (.pointer (some ⟨b,q,none⟩)))(hm:ai b T (CA pre k xs post)∈L)(hn:xs.length=n)(hq:q=pre.length+n+i)(hv:post[i]?=some v):cx C (.load t x) ty E L v L:=
  aB hs hx hm (by rw[hq,Ru hn,hv])
def zB{x:Operand}{t b q T n:Nat}(hs:gR C.P t=some n)(hx:au E x=some (.pointer (some ⟨b,q,none⟩)))(hm:ai b T (CA pre k xs post)∈L)(hn:xs.length=n)(hq:q=pre.length):cx C (.load t x) ty E L (.agg (ints k xs).toArray) L:=
  bU hs hx hm (by simp[ints,hn]) (by
    subst hq
    unfold CA
    rw[List.drop_left,List.take_left' (by simp[ints,hn])])
def om{x y:Operand}{t b q T:Nat}{m:Int}(i:Int)(hs:da C.P t=true)(hx:au E x=some (.pointer (some ⟨b,q,none⟩)))(hy:au E y=some (.int k m))(hr:jU L (ai b T (CA pre k xs post)) (ai b T (CA pre k (xs.set i.toNat m) post)) L')(hq:q=pre.length+i.toNat)(h0:0≤i)(hlt:i<xs.length):cx C (.store t x y) ty E L undef L':=
  ew hs hx hy rfl hr (by rw[Ix];omega) (by rw[hq,Ww omg])
def rf{x y:Operand}{t b q T n:Nat}{u:Value}(i:Nat)(hs:da C.P t=true)(hx:au E x=some (.pointer (some ⟨b,q,none⟩)))(hy:au E y=some u)(h1:u.oneCell'=true)(hr:jU L (ai b T (CA pre k xs post)) (ai b T (CA pre k xs post')) L')(hn:xs.length=n)(hq:q=pre.length+n+i)(hi:i<post.length)(hv:post.set i u=post'):cx C (.store t x y) ty E L undef L':=
  ew hs hx hy h1 hr (by rw[Ix];omega) (by rw[hq,Pz hn,hv])
end
def Az(k:IntKind)(xs:List Int):(Value.agg (ints k xs).toArray).cells.toList=CA [] k xs []:=by simp[Value.cells,CA]
end Go.Sl
namespace Go.Sl
def aA.star{P:Program}{f:FuncId}{args:List Value}{A:List ad}{K:Value→Prop}(h:aA P f args A (aF fun v G=>K v∧G=A)):aA P f args [tg A] (aF fun v G=>K v∧G=[tg A]):=fun w0 F w hi=>by
  refine(h w0 F w hi.Jc).mono ?_
  rintro e w' ⟨G,h1,v,rfl,hv,rfl⟩
  exact⟨[tg _],h1.star,v,rfl,hv,rfl⟩
section
variable {C:Ctx} {Q:QT} {E:Env} {L M F:List ad} {ops:Array Oper} {rest:List Oper}
def Wv{c:Code}{A:List ad}(hr:fG L A M)(k:Wp C c Q E (tg A::M)):Wp C c Q E L:=fun a w ha hi=>k a w ha (hi.perm hr.perm).star
def Ld{c:Code}{A:List ad}(hr:ij L (tg A) M)(k:Wp C c Q E (A++M)):Wp C c Q E L:=fun a w ha hi=>k a w ha (hi.perm hr.perm).Jc
end
end Go.Sl
namespace Go.Sl
open Go.RowKit (Below)
def Vb{w:World}{A:ad}(h:A w (fun _=>none)):Inv w [A] w:=(Inv.start w).yd h
def aA.law{P:Program}{f:FuncId}{args:List Value}{Pre:List ad}{R:Value→List ad→Prop}{w:World}{v:Value}(h:aA P f args Pre (aF R))(hi:Inv w Pre w)(hv:∀v' G,R v' G→v'=v):
    Calls P f args.toArray w fun e w'=>e=.returned v∧Below w.heap.size w w':=
  (h w [] w (by rw[List.append_nil];exact hi)).mono fun e w' ⟨G,h1,v',h2,h3⟩=>⟨by rw[h2,hv v' G h3],h1.below⟩
end Go.Sl
namespace Go.Sl
open Go.RowKit (Below)
inductive Td where
 |int (k:IntKind)
 |bool
 |flt (k:FloatKind)
 |str
 |sl (T:TypeId) (e:Td)
 |st (fs:Td)
 |unit
 |seq (a b:Td)
 |arr (n:Nat) (T:TypeId) (e:Td)
def Td.size:Td→Nat
 |.int _=>1
 |.bool=>1
 |.flt _=>1
 |.str=>1
 |.sl _ _=>1
 |.st d=>d.size
 |.unit=>0
 |.seq a b=>a.size+b.size
 |.arr n _ e=>n*e.size
structure Slv (α:Type) where
 p:Option Addr
 cap:Nat
 l:List α
@[reducible] def Td.Ty:Td→Type
 |.int _=>Int
 |.bool=>Bool
 |.flt _=>Nat
 |.str=>ByteArray
 |.sl _ e=>Slv e.Ty
 |.st d=>d.Ty
 |.unit=>Unit
 |.seq a b=>a.Ty×b.Ty
 |.arr n _ e=> {l:List e.Ty//l.length=n}
def Td.BA:(d:Td)→d.Ty
 |.int _=>(0:Int)
 |.bool=>false
 |.flt _=>(0:Nat)
 |.str=>ByteArray.empty
 |.sl _ _=>⟨none,0,[]⟩
 |.st d=>d.BA
 |.unit=>()
 |.seq a b=>(a.BA,b.BA)
 |.arr n _ e=>⟨List.replicate n e.BA,by simp⟩
def Td.cells:(d:Td)→d.Ty→List Value
 |.int k,x=>[.int k x]
 |.bool,x=>[.bool x]
 |.flt k,x=>[.float k x]
 |.str,x=>[.string x]
 |.sl _ _,x=>[.slice x.p x.l.length x.cap]
 |.st d,x=>d.cells x
 |.unit,_=>[]
 |.seq a b,x=>a.cells x.1++b.cells x.2
 |.arr _ _ e,x=>x.1.flatMap e.cells
def Td.kt:∀(d:Td) (x:d.Ty),(d.cells x).length=d.size
 |.int _,_=>rfl
 |.bool,_=>rfl
 |.flt _,_=>rfl
 |.str,_=>rfl
 |.sl _ _,_=>rfl
 |.st d,x=>Td.kt d x
 |.unit,_=>rfl
 |.seq a b,x=>by simp[Td.cells,Td.size,Td.kt a,Td.kt b]
 |.arr n _ e,⟨l,hl⟩=>by
  simp only[Td.cells,Td.size]
  subst hl
  induction l with
  |nil=>simp
  |cons y l ih=>simp only[List.flatMap_cons,List.length_append,List.length_cons,Td.kt e,ih,Nat.succ_mul];omega
def Td.np:∀(d:Td) (x:d.Ty),(d.cells x).all Value.oneCell'=true
 |.int _,_=>rfl
 |.bool,_=>rfl
 |.flt _,_=>rfl
 |.str,_=>rfl
 |.sl _ _,_=>rfl
 |.st d,x=>Td.np d x
 |.unit,_=>rfl
 |.seq a b,x=>by simp only[Td.cells,List.all_append,Td.np a,Td.np b,Bool.and_self]
 |.arr n _ e,⟨l,hl⟩=>by
  simp only[Td.cells,List.all_eq_true]
  intro v hv
  obtain⟨y,_,hy⟩:=List.mem_flatMap.1 hv
  exact List.all_eq_true.1 (Td.np e y) v hy
@[reducible] def Td.ec (T:TypeId) (d:Td):Ec d.Ty:=⟨T,d.size,d.cells,d.BA,d.kt,d.np⟩
def Td.Holds (w:World):(d:Td)→d.Ty→Prop
 |.int k,x=>k.min≤x∧x≤k.max
 |.bool,_=>True
 |.flt k,x=>(Lit.float k x).wf=true
 |.str,x=>x.size≤maxLen
 |.sl T e,x=>(x.l.length≤x.cap∧x.cap≤9223372036854775807)∧aE (Td.ec T e) x.p x.l.length x.l w (fun _=>none)∧∀y∈x.l,e.Holds w y
 |.st d,x=>d.Holds w x
 |.unit,_=>True
 |.seq a b,x=>a.Holds w x.1∧b.Holds w x.2
 |.arr _ _ e,x=>∀y∈x.1,e.Holds w y
def Td.fits (P:Program):Td→(TypeId ⊕ (List Field×Nat))→Bool
 |.int k,.inl t=>match P.underlying t with|some (.int k')=>decide (k'=k)|_=>false
 |.bool,.inl t=>match P.underlying t with|some .bool=>true|_=>false
 |.flt k,.inl t=>match P.underlying t with|some (.float k')=>decide (k'=k)|_=>false
 |.str,.inl t=>match P.underlying t with|some .string=>true|_=>false
 |.sl T e,.inl t=>match P.underlying t with|some (.slice T')=>Nat.beq T' T&&e.fits P (.inl T)&&Nat.beq (P.cellsOf T) e.size&&Nat.ble 1 e.size|_=>false
 |.st d,.inl t=>match P.underlying t with|some (.struct fs)=>d.fits P (.inr (fs.toList,0))&&Nat.beq (P.cellsOf t) d.size|_=>false
 |.arr n T e,.inl t=>match P.underlying t with|some (.array n' T')=>Nat.beq n' n&&Nat.beq T' T&&e.fits P (.inl T)&&Nat.beq (P.cellsOf T) e.size&&Nat.beq (P.cellsOf t) (n*e.size)|_=>false
 |.unit,.inr ([],_)=>true
 |.seq a b,.inr (f::fs,o)=>Nat.beq f.offset o&&a.fits P (.inl f.type)&&Nat.beq (P.cellsOf f.type) a.size&&b.fits P (.inr (fs,o+a.size))
 |_,_=>false
section
variable {H:Type} {enc:TypeId×Value→H} {P:Program} {w:World} {base:Nat} {spare:Nat→Bool} {held:Bool}
def Cc{α β:Type}{f:α→Option β}:∀ {l:List α} {xs:List β},l.mapM f=some xs→xs.length=l.length∧∀(i:Nat) (a:α),l[i]?=some a→f a=xs[i]?
 |[],xs,h=>by simp at h;subst h;simp
 |a::l,xs,h=>by
  simp only[List.mapM_cons] at h
  cases ha:f a with
  |none=>simp[ha] at h
  |some b=>
   simp only[ha] at h
   cases hl:l.mapM f with
   |none=>simp[hl] at h
   |some bs=>
    simp[hl] at h
    subst h
    obtain⟨h1,h2⟩:=Cc hl
    refine⟨by simp[h1],fun i a' hi=>?_⟩
    cases i with
    |zero=>simp at hi;subst hi;simpa using ha
    |succ i=>simpa using h2 i a' (by simpa using hi)
def IU{a:Addr}{n:Nat}{cs:List Value}(h:w.cells? base a n=some cs):cs.length=n∧∀i:Nat,i<n→w.cell? (a.add i)=cs[i]?:=by
 unfold World.cells? at h
 split at h
 ·obtain⟨h1,h2⟩:=Cc h
  simp at h1
  exact⟨h1,fun i hi=>h2 i i (by simp[hi])⟩
 ·cases h
def pM{α:Type}{p:Nat→α→Prop}:∀(n:Nat),(∀i,i<n→∃y,p i y)→∃l:List α,l.length=n∧∀(i:Nat) (y:α),l[i]?=some y→p i y
 |0,_=>⟨[],rfl,by simp⟩
 |n+1,h=>by
  obtain⟨l,h1,h2⟩:=pM n (fun i hi=>h i omg)
  obtain⟨y,hy⟩:=h n omg
  refine⟨l++[y],by simp[h1],fun i z hz=>?_⟩
  by_cases hi:i<n
  ·rw[List.getElem?_append_left omg] at hz
   exact h2 i z hz
  ·have:=(List.getElem?_eq_some_iff.1 hz).1
   simp at this
   obtain rfl:i=n:=omg
   rw[List.getElem?_append_right omg] at hz
   simp[h1] at hz
   subst hz
   exact hy
def BW{α:Type}{f:α→List Value}{sz:Nat}(hf:∀x,(f x).length=sz):∀(l:List α) (cs:List Value),cs.length=l.length*sz→(∀(i:Nat) (y:α),l[i]?=some y→(cs.drop (i*sz)).take sz=f y)→cs=l.flatMap f
 |[],cs,h,_=>by simp at h;simp[h]
 |y::l,cs,h,k=>by
  have h0:=k 0 y (by simp)
  simp at h0
  have:=BW hf l (cs.drop sz) (by simp[h,Nat.succ_mul]) (fun i z hz=>by
   have:=k (i+1) z (by simpa using hz)
   rw[List.drop_drop,←this]
   congr 2
   rw[Nat.succ_mul];omega)
  rw[List.flatMap_cons,←this,←h0,List.take_append_drop]
def FE{fuel:Nat}{t:TypeId}{cs:List Value}{x:DataW H×List MemPlace}{k:FloatKind}(ht:P.underlying t=some (.float k))(h:DataW.trod enc P w base spare held fuel t cs=some x):∃n,cs=[.float k n]∧(Lit.float k n).wf=true:=by
 cases fuel with
 |zero=>simp[DataW.trod] at h
 |succ n=>
  unfold DataW.trod at h
  rw[ht] at h
  split at h<;>simp_all
def Addr.add_add(a:Addr)(m n:Nat):(a.add m).add n=a.add (m+n):=by
 unfold Addr.add
 by_cases hm:m=0
 ·subst hm;simp
 ·by_cases hn:n=0
  ·subst hn;simp[hm]
  ·have:m+n≠0:=omg
   simp only[hm,hn,this,if_false]
   simp[Nat.add_assoc]
def Td.open_:∀(d:Td),(∀t,d.fits P (.inl t)=true→∀(fuel:Nat) (cs:List Value) (x:DataW H×List MemPlace),DataW.trod enc P w 0 spare held fuel t cs=some x→∃y,cs=d.cells y∧d.Holds w y)∧
  (∀fs o,d.fits P (.inr (fs,o))=true→∀(fuel:Nat) (cs:List Value),cs.length=o+d.size→(∀(i:Nat) (f:Field),fs[i]?=some f→∃x,DataW.trod enc P w 0 spare held fuel f.type ((cs.drop f.offset).take (P.cellsOf f.type))=some x)→∃y,cs.drop o=d.cells y∧d.Holds w y)
 |.int k=>⟨fun t hf fuel cs x h=>by
   simp only[Td.fits] at hf
   split at hf
   ·rename_i k' hk
    simp at hf
    subst hf
    obtain⟨n,rfl,_,h2⟩:=DataW.trod_int hk h
    exact⟨n,rfl,by simpa[Lit.wf,Td.Holds] using h2⟩
   ·exact absurd hf Bool.false_ne_true,fun fs o hf=>by simp[Td.fits] at hf⟩
 |.bool=>⟨fun t hf fuel cs x h=>by
   simp only[Td.fits] at hf
   split at hf
   ·rename_i hk
    obtain⟨n,rfl,_⟩:=DataW.trod_bool hk h
    exact⟨n,rfl,trivial⟩
   ·exact absurd hf Bool.false_ne_true,fun fs o hf=>by simp[Td.fits] at hf⟩
 |.flt k=>⟨fun t hf fuel cs x h=>by
   simp only[Td.fits] at hf
   split at hf
   ·rename_i k' hk
    simp at hf
    subst hf
    obtain⟨b,rfl,h2⟩:=FE hk h
    exact⟨b,rfl,h2⟩
   ·exact absurd hf Bool.false_ne_true,fun fs o hf=>by simp[Td.fits] at hf⟩
 |.str=>⟨fun t hf fuel cs x h=>by
   simp only[Td.fits] at hf
   split at hf
   ·rename_i hk
    obtain⟨b,rfl,_,h2⟩:=DataW.trod_string hk h
    exact⟨b,rfl,h2⟩
   ·exact absurd hf Bool.false_ne_true,fun fs o hf=>by simp[Td.fits] at hf⟩
 |.sl T e=>⟨fun t hf fuel cs x h=>by
   simp only[Td.fits] at hf
   split at hf
   ·rename_i T' hk
    simp only[Bool.and_eq_true] at hf
    obtain⟨⟨⟨h1,h2⟩,h3⟩,h4⟩:=hf
    obtain rfl:=Nat.eq_of_beq_eq_true h1
    have h3:=Nat.eq_of_beq_eq_true h3
    have h4:=Nat.le_of_ble_eq_true h4
    rcases DataW.trod_slice hk h with⟨rfl,_⟩|⟨a,len,cap,elems,rest,n,_,rfl,_,_,hlc,hcm,hel,hgo,_⟩
    ·exact⟨⟨none,0,[]⟩,rfl,⟨Nat.zero_le _,Nat.zero_le _⟩,⟨rfl,by simp,.inl rfl⟩,by simp⟩
    ·have key:∀i,i<len→∃y:e.Ty,e.Holds w y∧∀j,j<e.size→w.cell? (a.add (i*e.size+j))=(e.cells y)[j]?:=by
      intro i hi
      have h5:=hgo i hi
      have h6:elems[i]?=some elems[i]:=List.getElem?_eq_getElem omg
      rw[h6,Option.bind_eq_some_iff] at h5
      obtain⟨cs',h7,h8⟩:=h5
      obtain⟨y,rfl,hy⟩:=(Td.open_ e).1 T' h2 n cs' _ h8
      obtain⟨_,h9⟩:=IU h7
      refine⟨y,hy,fun j hj=>?_⟩
      rw[←h9 j omg,Addr.add_add,h3]
     obtain⟨l,hl,hp⟩:=pM len key
     subst hl
     refine⟨⟨some a,cap,l⟩,rfl,by unfold maxLen at hcm;show l.length≤cap∧cap≤_;omega,⟨rfl,by rw[gA (Td.ec T' e)],?_⟩,fun y hy=>by obtain⟨i,hi⟩:=List.getElem?_of_mem hy;exact(hp i y hi).1⟩
     show l.length=0∨_
     by_cases h0:l.length=0
     ·exact .inl h0
     right
     obtain⟨b,o,s⟩:=a
     have hfst:=(hp 0 l[0] (List.getElem?_eq_getElem omg)).2 0 omg
     have hs:s=none:=by
      cases s with
      |none=>rfl
      |some q=>
       exfalso
       have hlt:0<(e.cells l[0]).length:=by rw[Td.kt];omega
       rw[List.getElem?_eq_getElem hlt] at hfst
       simp[Addr.add,World.cell?] at hfst
       split at hfst<;>simp at hfst
     subst hs
     refine⟨b,o,rfl,fun i v hv=>?_⟩
     have hi:=(List.getElem?_eq_some_iff.1 hv).1
     rw[gA (Td.ec T' e)] at hi
     have hi:i<l.length*e.size:=hi
     have hdiv:i/e.size<l.length:=Nat.div_lt_of_lt_mul (by rw[Nat.mul_comm];exact hi)
     have hmod:i%e.size<e.size:=Nat.mod_lt _ omg
     have hsplit:i=i/e.size*e.size+i%e.size:=by rw[Nat.mul_comm];exact(Nat.div_add_mod _ _).symm
     have hg:=rj (Td.ec T' e) l (i/e.size) (i%e.size) hdiv hmod
     have hg:(l.flatMap e.cells)[i/e.size*e.size+i%e.size]?=(e.cells l[i/e.size])[i%e.size]?:=hg
     rw[←hsplit] at hg
     have hv:(l.flatMap e.cells)[i]?=some v:=hv
     rw[hg] at hv
     have hc:=(hp (i/e.size) l[i/e.size] (List.getElem?_eq_getElem hdiv)).2 (i%e.size) hmod
     rw[hv,←hsplit,Addr.gl] at hc
     simp only[qQ]
     rw[if_pos (World.block_lt_of_cell? _ _ hc),hc]
   ·exact absurd hf Bool.false_ne_true,fun fs o hf=>by simp[Td.fits] at hf⟩
 |.st d=>⟨fun t hf fuel cs x h=>by
   simp only[Td.fits] at hf
   split at hf
   ·rename_i fs hk
    simp only[Bool.and_eq_true] at hf
    obtain⟨h1,h2⟩:=hf
    have h2:=Nat.eq_of_beq_eq_true h2
    obtain⟨xs,n,_,_,h3,h4,h5⟩:=DataW.trod_struct hk h
    obtain⟨y,e1,e2⟩:=(Td.open_ d).2 fs.toList 0 h1 n cs omg (fun i f hi=>by
     have hi':fs[i]?=some f:=by simpa using hi
     have:=h5 i f hi'
     have hlt:=(Array.getElem?_eq_some_iff.1 hi').1
     exact⟨_,by rw[this];exact List.getElem?_eq_getElem omg⟩)
    exact⟨y,by rw[List.drop_zero] at e1;exact e1,e2⟩
   ·exact absurd hf Bool.false_ne_true,fun fs o hf=>by simp[Td.fits] at hf⟩
 |.unit=>⟨fun t hf=>by simp[Td.fits] at hf,fun fs o hf fuel cs hl h=>⟨(),by simp[Td.cells,Td.size] at hl ⊢;omega,trivial⟩⟩
 |.seq a b=>⟨fun t hf=>by simp[Td.fits] at hf,fun fs o hf fuel cs hl h=>by
   cases fs with
   |nil=>simp[Td.fits] at hf
   |cons f fs=>
    simp only[Td.fits,Bool.and_eq_true] at hf
    obtain⟨⟨⟨h1,h2⟩,h3⟩,h4⟩:=hf
    have h1:=Nat.eq_of_beq_eq_true h1
    have h3:=Nat.eq_of_beq_eq_true h3
    obtain⟨x,hx⟩:=h 0 f rfl
    rw[h1,h3] at hx
    obtain⟨y,e1,e2⟩:=(Td.open_ a).1 _ h2 fuel _ x hx
    simp only[Td.size] at hl
    obtain⟨z,e3,e4⟩:=(Td.open_ b).2 fs (o+a.size) h4 fuel cs omg (fun i g hi=>h (i+1) g (by simpa using hi))
    refine⟨(y,z),?_,e2,e4⟩
    simp only[Td.cells]
    rw[←e1,←e3,←List.drop_drop,List.take_append_drop]⟩
 |.arr n T e=>⟨fun t hf fuel cs x h=>by
   simp only[Td.fits] at hf
   split at hf
   ·rename_i n' T' hk
    simp only[Bool.and_eq_true] at hf
    obtain⟨⟨⟨⟨h1,h2⟩,h3⟩,h4⟩,h5⟩:=hf
    obtain rfl:=Nat.eq_of_beq_eq_true h1
    obtain rfl:=Nat.eq_of_beq_eq_true h2
    have h4:=Nat.eq_of_beq_eq_true h4
    have h5:=Nat.eq_of_beq_eq_true h5
    obtain⟨xs,m,_,_,h6,h7,h8⟩:=DataW.trod_array hk h
    obtain⟨l,hl,hp⟩:=pM (p:=fun i (y:e.Ty)=>(cs.drop (i*e.size)).take e.size=e.cells y∧e.Holds w y) n' (fun i hi=>by
     have h9:=h8 i hi
     rw[List.getElem?_eq_getElem omg,h4] at h9
     obtain⟨y,e1,e2⟩:=(Td.open_ e).1 T' h3 m _ _ h9
     exact⟨y,e1,e2⟩)
    refine⟨⟨l,hl⟩,BW (Td.kt e) l cs (by rw[hl];omega) (fun i y hy=>(hp i y hy).1),fun y hy=>by obtain⟨i,hi⟩:=List.getElem?_of_mem hy;exact(hp i y hi).2⟩
   ·exact absurd hf Bool.false_ne_true,fun fs o hf=>by simp[Td.fits] at hf⟩
def Td.arg(d:Td){t:TypeId}{v:Value}{r:DataW H}{p:List MemPlace}(hf:d.fits P (.inl t)=true)(h:∃fuel,DataW.trod enc P w 0 spare held fuel t v.cells.toList=some (r,p)):∃y,v.cells.toList=d.cells y∧d.Holds w y:=by
 obtain⟨fuel,h⟩:=h
 exact(Td.open_ d).1 t hf fuel _ _ h
end
def sP{cs:Array Value}{l:List Value}(h:(Value.agg cs).cells.toList=l):Value.agg cs=.agg l.toArray:=by
 subst h;simp[Value.cells]
def Td.val:(d:Td)→d.Ty→Value
 |.int k,x=>.int k x
 |.bool,x=>.bool x
 |.flt k,x=>.float k x
 |.str,x=>.string x
 |.sl _ _,x=>.slice x.p x.l.length x.cap
 |.st d,x=>.agg (d.cells x).toArray
 |.unit,_=>.agg #[]
 |.seq a b,x=>.agg (Td.cells (.seq a b) x).toArray
 |.arr n T e,x=>.agg (Td.cells (.arr n T e) x).toArray
section
variable {H:Type} {enc:TypeId×Value→H} {P:Program} {w:World} {spare:Nat→Bool} {held:Bool}
open Go.WideShapes
def Td.acY(d:Td){t:TypeId}{v:Value}{r:DataW H}{p:List MemPlace}{rr:Reach}{b:Nat}(hf:d.fits P (.inl t)=true)(ho:Value.okWide P w rr b t v)(h:∃fuel,DataW.trod enc P w 0 spare held fuel t v.cells.toList=some (r,p)):∃y,v=d.val y∧d.Holds w y:=by
 obtain⟨y,e,hy⟩:=Td.arg d hf h
 refine⟨y,?_,hy⟩
 cases d with
 |int k=>
  simp only[Td.fits] at hf
  split at hf
  ·rename_i k' hk
   obtain⟨n,rfl⟩:=okWide_int hk ho
   simpa[Value.cells,Td.cells,Td.val] using e
  ·cases hf
 |bool=>
  simp only[Td.fits] at hf
  split at hf
  ·rename_i hk
   obtain⟨n,rfl⟩:=okWide_bool hk ho
   simpa[Value.cells,Td.cells,Td.val] using e
  ·cases hf
 |flt k=>
  simp only[Td.fits] at hf
  split at hf
  ·rename_i k' hk
   simp only[Value.okWide,hk,Cell.okWide] at ho
   cases v<;>simp_all [Cell.ok,Value.cells,Td.cells,Td.val]
  ·cases hf
 |str=>
  simp only[Td.fits] at hf
  split at hf
  ·rename_i hk
   obtain⟨n,rfl⟩:=okWide_string hk ho
   simpa[Value.cells,Td.cells,Td.val] using e
  ·cases hf
 |sl T e'=>
  simp only[Td.fits] at hf
  split at hf
  ·rename_i k' hk
   obtain⟨a,len,cap,rfl⟩:=okWide_slice hk ho
   simpa[Value.cells,Td.cells,Td.val] using e
  ·cases hf
 |st d=>
  simp only[Td.fits] at hf
  split at hf
  ·rename_i fs hk
   obtain⟨cs,rfl,_⟩:=okWide_struct hk ho
   exact sP e
  ·cases hf
 |unit=>simp[Td.fits] at hf
 |seq a b=>simp[Td.fits] at hf
 |arr n T e'=>
  simp only[Td.fits] at hf
  split at hf
  ·rename_i n' T' hk
   simp only[Value.okWide,hk] at ho
   obtain⟨cs,rfl,_⟩:=ho
   exact sP e
  ·cases hf
end
end Go.Sl
namespace Go.Sl
def Deep (T:TypeId) (e:Td) (p:Option Addr) (n:Nat) (l:List e.Ty):ad:=fun w0 h=>aE (Td.ec T e) p n l w0 h∧∀y∈l,e.Holds w0 y
section
variable {C:Ctx} {Q:QT} {E:Env} {L:List ad} {ops:Array Oper} {rest:List Oper}
end
def F6{w:World}{T:TypeId}{k:IntKind}{x:Slv Int}(hx:(Td.sl T (.int k)).Holds w x):aE (aK T k) x.p x.l.length x.l w (fun _=>none):=hx.2.1
end Go.Sl

/- Walks of functions that the law reaches, and what they lean on; no conditions. -/
import Derived.Test.YtmaiakpjgomnpaaGreatM1
import Derived.Recover
import Derived.Laws.BytesArg
import Derived.Lib.ConvBytes
set_option linter.defProp false
set_option maxHeartbeats 16000000
set_option maxRecDepth 100000
set_option linter.unusedVariables false
set_option linter.unusedSimpArgs false
set_option maxRecDepth 100000
namespace Go.Sl
open Go.RowKit (Below)
def uD (R:List PanicEntry→List ad→Prop):Ending→List ad→Prop:=fun e G=>∃ch,e=.panicked ch∧R ch G
def vR (R:Value→List ad→Prop) (S:List PanicEntry→List ad→Prop):Ending→List ad→Prop:=fun e G=>(∃v,e=.returned v∧R v G)∨(∃ch,e=.panicked ch∧S ch G)
abbrev ku (t:TypeId) (v:Value):List PanicEntry:=[{v:=.iface t v,recovered:=false}]
section
variable {C:Ctx} {Q:QT} {E:Env} {L L' F:List ad} {ops:Array Oper} {rest:List Oper} {d:Nat} {ty:TypeId} {pos:String} {aft:Array Edge} {op:Op} {v:Value}
def Be{rs:Array ResultVar}{F G:List ad}{R:List PanicEntry→List ad→Prop}{ch:List PanicEntry}(hR:R ch G)(hs:Sub L (G++F)):oQ C rs F (uD R) (.panic ch) E L:=⟨G,⟨ch,rfl,hR⟩,hs⟩
def Hg{rs:Array ResultVar}{F G:List ad}{R:Value→List ad→Prop}{S:List PanicEntry→List ad→Prop}{ch:List PanicEntry}(hR:S ch G)(hs:Sub L (G++F)):oQ C rs F (vR R S) (.panic ch) E L:=⟨G,.inr ⟨ch,rfl,hR⟩,hs⟩
def Vw{rs:Array ResultVar}{F G:List ad}{R:Value→List ad→Prop}{S:List PanicEntry→List ad→Prop}(hr:k8 C rs E L v)(hR:R v G)(hs:Sub L (G++F)):oQ C rs F (vR R S) .ret E L:=⟨v,G,hr,.inl ⟨v,rfl,hR⟩,hs⟩
def dY{dst:Option Nat}{f:FuncId}{args:List Operand}{tys:Array TypeId}{vs:List Value}{Pre:List ad}{R:List PanicEntry→List ad→Prop}(hS:aA C.P f vs Pre (uD R))(hb:az C.P f=true)(hE:iG E args=some vs)(hL:fG L Pre F)
  (k:∀ch G,R ch G→Q (.panic ch) E (G++F)):dr C ops (⟨dst,.call ⟨.value (.func f),args.toArray,tys⟩,ty,pos,aft,none⟩::rest) Q E L:=by
 intro a w ha hi
 refine wpList_plain rfl (fun K hK=>?_)
 have hargs:=ha.iG hE
 have hr:(execOp a.eval ⟨dst,.call ⟨.value (.func f),args.toArray,tys⟩,ty,pos,aft,none⟩).run C.P w=.ok (.enter f vs.toArray) w:=by
  simp only[execOp,resolve,hargs,Deferred.ofValue,Act.eval,invoke,Sem.run_bind,Sem.run_pure,Result.andThen_ok,Array.append_empty,Array.empty_append,gM hb]
 unfold Oper.wp
 rw[hr]
 refine(hS C.w0 F w (hi.perm hL.perm)).mono ?_
 rintro e w' ⟨G,h1,ch,rfl,h2⟩
 exact⟨E,_,ha,h1,k ch G h2⟩
def Kq{dst:Option Nat}{f:FuncId}{t:Nat}{args:List Operand}{tys:Array TypeId}{vs fs cs:List Value}{Pre:List ad}{R:List PanicEntry→List ad→Prop}(hS:aA C.P f (fs++vs++cs) Pre (uD R))(hb:az C.P f=true)(ht:E.get t=some (.func (.func f) fs.toArray cs.toArray))(hE:iG E args=some vs)(hL:fG L Pre F)
  (k:∀ch G,R ch G→Q (.panic ch) E (G++F)):dr C ops (⟨dst,.call ⟨.value (.tmp t),args.toArray,tys⟩,ty,pos,aft,none⟩::rest) Q E L:=by
 intro a w ha hi
 refine wpList_plain rfl (fun K hK=>?_)
 have hargs:=ha.iG hE
 have hev:=ha.eval (x:=.tmp t) ht
 have hr:(execOp a.eval ⟨dst,.call ⟨.value (.tmp t),args.toArray,tys⟩,ty,pos,aft,none⟩).run C.P w=.ok (.enter f (fs++vs++cs).toArray) w:=by
  simp only[execOp,resolve,hargs,hev,Deferred.ofValue,invoke,Sem.run_bind,Sem.run_pure,Result.andThen_ok,gM hb]
  simp
 unfold Oper.wp
 rw[hr]
 refine(hS C.w0 F w (hi.perm hL.perm)).mono ?_
 rintro e w' ⟨G,h1,ch,rfl,h2⟩
 exact⟨E,_,ha,h1,k ch G h2⟩
def xV{dst:Option Nat}{x:Operand}{t:TypeId}{u:Value}(hx:au E x=some (.iface t u))(k:Q (.panic (ku t u)) E L):dr C ops (⟨dst,.panic x,ty,pos,aft,none⟩::rest) Q E L:=by
 intro a w ha hi
 refine wpList_plain rfl (fun K hK=>?_)
 have hr:(execOp a.eval ⟨dst,.panic x,ty,pos,aft,none⟩).run C.P w=.halt (.panic (.iface t u)) w:=by
  simp[execOp,ha.eval hx,Instr.panic,goPanic]
 unfold Oper.wp
 rw[hr]
 exact⟨E,_,ha,hi,k⟩
def oc (P:Program) (t:TypeId):Bool:=match P.underlying t with|some (.interface _)=>false|some _=>true|none=>false
def ya{x:Operand}{t:TypeId}(ht:oc C.P t=true)(hx:au E x=some v):cx C (.makeInterface t x) ty E L (.iface t v) L:=dM fun d pos aft g a w ha=>by
 unfold oc at ht
 split at ht<;>try simp at ht
 rename_i ds hne hds
 simp only[execOp,ha.eval hx,Instr.makeInterface,Sem.run_bind,run_underlying hds,Result.andThen_ok]
 cases ds<;>first|(exact absurd rfl (hne _))|simp[Sem.run_pure]
def Ax{t e:TypeId}{p:Option Addr}{n c:Nat}(ht:C.P.underlying t=some (.slice e))(d:Nat)(w:World):(Op.equalIn (d+1) t (.slice p n c) (.slice none 0 0)).run C.P w=.ok p.isNone w:=by
 cases p<;>simp[Op.equalIn,run_underlying ht]
def Lb{x y:Operand}{t t' e:TypeId}{p:Option Addr}{n c:Nat}(ht:C.P.underlying t=some (.slice e))(hx:au E x=some (.slice p n c))(hy:au E y=some (.slice none 0 0)):cx C (.binOp .eql t x y t') ty E L (.bool p.isNone) L:=
 dM fun d pos aft g a w ha=>by
  rw[kl d pos aft g (ha.eval hx) (ha.eval hy) (by simp[eqGuard])]
  have h:=Ax ht (p:=p) (n:=n) (c:=c) 9999 w
  simp only[binOp,Op.equal,Op.maxDepth,Sem.run_bind,h,Result.andThen_ok,Sem.run_pure]
def aeC (P:Program) (t:TypeId):Bool:=match P.underlying t with|some (.func _ _ _)=>true|_=>false
end
def bH{A:ad}{L:List ad}(hA:∀w0,A w0 (fun _=>none)):Sub L (A::L):=fun w0 w hi=>hi.yd (hA w0)
abbrev QR:=Exit→Act→World→Prop
def Et (C:Ctx) (c:Code) (Q:QR) (E:Env) (L:List ad):Prop:=∀a w,gr C E a→Inv C.w0 L w→c.wp C.P Q a w
def qr (C:Ctx) (Q:QR):QT:=fun e E L=>∀a w,gr C E a→Inv C.w0 L w→Q e a w
section
variable {C:Ctx} {Q:QR} {E:Env} {L:List ad}
def N4{c:Code}(h:Wp C c (qr C Q) E L):Et C c Q E L:=fun a w ha hi=>
 Code.wp_mono (fun e a w ⟨E,L,ha,hi,q⟩=>q a w ha hi) (h a w ha hi)
def si{x y:Code}(h:Wp C x (jB (fun E L=>Et C y Q E L) (qr C Q)) E L):Et C (.seq x y) Q E L:=fun a w ha hi=>
 Go.wp_seq (Code.wp_mono (fun e a w ⟨E,L,ha,hi,q⟩=>by
  cases e with
  |normal=>exact q a w ha hi
  |exit _=>exact q a w ha hi
  |goto _=>exact q a w ha hi
  |ret=>exact q a w ha hi
  |panic _=>exact q a w ha hi
  |outgrown=>exact q a w ha hi) (h a w ha hi))
def BL{y:Code}{id d:Nat}{fn:FuncId}{caps:List Operand}{cs:List Value}{ty1 ty2:TypeId}{pos1 pos2:String}{aft1 aft2:Array Edge}{tys:Array TypeId}(hc:iG E caps=some cs)(hd:Nat.blt d C.n=true)
  (h:Et {C with D:= {target:=.fn (.func fn) cs.toArray,args:= #[]}::C.D} y Q ((d,.func (.func fn) #[] cs.toArray)::E) L):
  Et C (.seq (.region id [⟨some d,.makeFunc (.func fn) #[] caps.toArray,ty1,pos1,aft1,none⟩,⟨none,.defer ⟨.value (.tmp d), #[],tys⟩,ty2,pos2,aft2,none⟩].toArray false) y) Q E L:=fun a w ha hi=>by
 refine Go.wp_seq (wp_region_lit ?_)
 refine wpList_plain rfl (fun K hK=>?_)
 have h1:(execOp a.eval ⟨some d,.makeFunc (.func fn) #[] caps.toArray,ty1,pos1,aft1,none⟩).run C.P w=.ok (.value (.func (.func fn) #[] cs.toArray)) w:=by
  simp only[execOp,Instr.makeFunc,ha.iG hc,Sem.run_bind,Sem.run_pure,Result.andThen_ok,Array.map_empty]
 unfold Oper.wp
 rw[h1]
 refine hK _ _ ?_
 have ha2:=ha.put (fY hd) (.func (.func fn) #[] cs.toArray)
 refine wpList_plain rfl (fun K hK=>?_)
 have hev:=ha2.eval (x:=.tmp d) (v:=.func (.func fn) #[] cs.toArray) (by simp[au,Env.jv])
 have h2:(execOp (a.put (some d) (.func (.func fn) #[] cs.toArray)).eval ⟨none,.defer ⟨.value (.tmp d), #[],tys⟩,ty2,pos2,aft2,none⟩).run C.P w=.ok (.defer {target:=.fn (.func fn) cs.toArray,args:= #[]}) w:=by
  simp[execOp,resolve,hev,Deferred.ofValue]
 unfold Oper.wp
 rw[h2]
 refine hK _ _ (wpList_nil ?_)
 have ha3:gr {C with D:= {target:=.fn (.func fn) cs.toArray,args:= #[]}::C.D} ((d,.func (.func fn) #[] cs.toArray)::E) {a.put (some d) (.func (.func fn) #[] cs.toArray) with defers:= {target:=.fn (.func fn) cs.toArray,args:= #[]}::(a.put (some d) (.func (.func fn) #[] cs.toArray)).defers}:=
  ⟨by simp[ha2.defers],ha2.size,ha2.get⟩
 exact h _ _ ha3 hi
end
def BF{P:Program}{f:FuncId}{fn:Func}{c:Code}{args:List Value}{Pre:List ad}{Post:Ending→List ad→Prop}{n:Nat}(E:Env)(hf:P.funcs[f]?=some fn)(hb:fn.body=some c)(hn:fn.ntmps=n)(hE:Ac 0 args=E)(hl:Nat.ble args.length n=true)
  (h:∀w0 F,Et ⟨P,w0,n,[],fun _ _=>False⟩ c (bodyPostD P fn fun e w'=>∃G,Inv w0 (G++F) w'∧Post e G) E (Pre++F)):aA P f args Pre Post:=by
 intro w0 F w hi
 have hl:=Nat.le_of_ble_eq_true hl
 refine calls_of_wp_defers hf hb (h w0 F _ w ?_ hi)
 refine⟨rfl,?_,?_⟩
 ·simp[hn];omega
 ·intro d v hd
  rw[←hE] at hd
  obtain⟨_,h2⟩:=u0 0 args d v hd
  have hlt:=(List.getElem?_eq_some_iff.1 h2).1
  simp at h2 hlt ⊢
  rw[Array.getElem?_append_left (by simpa using hlt)]
  simpa using h2
def PA{x:Int}(h:IntKind.u8.min≤x∧x≤IntKind.u8.max):0≤x∧x<256:=by
 have h1:IntKind.u8.min=0:=by decide
 have h2:IntKind.u8.max=255:=by decide
 omega
def Vd{α:Type}{c:Ec α}{w0 w:World}{L:List ad}{R:ad}{p:Option Addr}{n:Nat}{l:List α}(hm:R∈L)(hR:∀w0 h,R w0 h→aE c p n l w0 h)(hi:Inv w0 L w):p=none→l=[]:=by
 intro e
 obtain⟨F,hb,h,a,h1,h2,d,l1,l2,hp,_⟩:=hi.mem hm
 obtain⟨e1,e2,e3⟩:=hR _ _ hp
 rcases e3 with h0|⟨b,o,h1,_⟩
 ·exact List.length_eq_zero_iff.1 omg
 ·rw[e] at h1;cases h1
section
variable {C:Ctx} {Q:QT} {E E0:Env} {L F:List ad} {ops:Array Oper} {ty:TypeId} {pos:String} {aft:Array Edge}
def gf{dst:Option Nat}{f:FuncId}{args:List Operand}{tys:Array TypeId}{vs:List Value}{Pre:List ad}{S:List PanicEntry→List ad→Prop}{R:Value→List ad→Prop}(hS:aA C.P f vs Pre (uD S))(hb:az C.P f=true)(hE:iG E args=some vs)(hL:fG L Pre F)(hP:∀ch G,S ch G→C.X ch (G++F)):
  Step C ops ⟨dst,.call ⟨.value (.func f),args.toArray,tys⟩,ty,pos,aft,none⟩ E L R:=by
 intro a w K Qx ha hi hK
 rw[if_pos (by simp[Region.wanted])]
 have hargs:=ha.iG hE
 have hr:(execOp a.eval ⟨dst,.call ⟨.value (.func f),args.toArray,tys⟩,ty,pos,aft,none⟩).run C.P w=.ok (.enter f vs.toArray) w:=by
  simp only[execOp,resolve,hargs,Deferred.ofValue,Act.eval,invoke,Sem.run_bind,Sem.run_pure,Result.andThen_ok,Array.append_empty,Array.empty_append,gM hb]
 unfold Oper.wp
 rw[hr]
 refine(hS C.w0 F w (hi.perm hL.perm)).mono ?_
 rintro e w' ⟨G,h1,ch,rfl,h2⟩
 exact Qx.2 ch E _ a w' ha h1 (hP ch G h2)
variable {l:List Oper} {ts:List dR} {i:Nat} {c:iq} {o:Oper} {os:List Oper} {ps:List eu} {K:iq→Prop} {A0:List ad}
def bF{p:eu}(v0:Value)(R:Yv→List ad)(E:Yv→Env)(hE:∀y,lI l E0 p i c y=E y)(hc:iR ts i=[])(hr:∀y,e9 (fo ts i) y=R y)
  (h:∀y M,(∀j∈p.gC,dI c i j y)→Step C l.toArray o (E y) (R y++(M++A0)) (fun _ _=>False))
  (r:iD C l E0 ts A0 (i+1) (c.put (fun _=>v0) (fun _=>False)) os ps K):iD C l E0 ts A0 i c (o::os) (p::ps) K:=
 ⟨(fun _=>v0),(fun _=>False),fun _ _ _=>rfl,fun _ _ _=>rfl,fun y M h3 a w K' Q ha hi hK=>by
  rw[hE] at ha
  rw[hc,hr] at hi
  exact h y M h3 a w K' Q ha hi (fun _ _ _ h=>h.elim),r⟩
end
end Go.Sl
namespace Go.Sl
def aeF (P:Program) (t:TypeId) (name:String):Option FuncId:=match (P.info? t).bind fun i=>i.methods.find? (·.name==name) with
 |some m=>if m.path.isEmpty then(match m.func,P.underlying t with
  |some (_,false),some (.pointer _)=>none
  |some (f,false),some _=>some f
  |some (f,true),some (.pointer _)=>some f
  |_,_=>none) else none
 |none=>none
section
variable {C:Ctx} {Q:QT} {E:Env} {L L' F:List ad} {ops:Array Oper} {rest:List Oper} {d:Nat} {ty:TypeId} {pos:String} {aft:Array Edge} {op:Op} {v:Value}
def WE{x:Operand}{t:TypeId}{s:ByteArray}{n:Nat}(ht:C.P.underlying t=some .string)(h:au E x=some (.string s))(hn:s.size=n):cx C (.call ⟨.builtin .len,[x].toArray, #[t]⟩) ty E L (.int .i64 n) L:=
 dM fun d pos aft g a w ha=>by subst hn;simp[execOp,resolve,invoke,builtin,Builtin.len_,ha.eval h,run_underlying ht,goInt]
def CL(l:List Int):l.flatMap (fun x=>[Value.int .u8 x])=l.map (Value.int .u8):=by
 induction l with
 |nil=>rfl
 |cons a l ih=>simp[List.flatMap_cons,ih]
def cH{t u T n b T':Nat}{cs:List Value}{v2:Value}(hs:gR C.P T=some n)(h1:E.get t=some (.pointer (soz b)))(hm:ai b T' cs∈L)(hn:cs.length=n)(h2:E.get u=some v2):k8 C #[.cell t T,.tmp u] E L (.tuple #[.agg cs.toArray,v2]):=fun fn a w hr ha hi=>by
 obtain⟨g1,g2⟩:=mS hs w
 obtain⟨F,hF⟩:=hi.mem hm
 have:=run_loadCells_list (P:=C.P) w ⟨b,0,none⟩ cs (fun j v hj=>by rw[Addr.gl,hF.jq,←hj];simp)
 rw[hn] at this
 simp[results,hr,ha.get _ _ h1,ha.get _ _ h2,asAddr,loadVar,g1,g2,this]
def Blk (b:Nat) (o:Obj):ad:=fun _ h=>h b=some o
end
end Go.Sl
namespace Go.Sl
inductive Fr where
 |sq (c:Code)
 |bk (id:Nat)
 |lp (J:Env→List ad→Prop)
def KF (C:Ctx) (Q:QT):List Fr→QT
 |[]=>Q
 |.sq c::fr=>jB (fun E L=>Wp C c (KF C Q fr) E L) (KF C Q fr)
 |.bk i::fr=>ks i (KF C Q fr)
 |.lp J::fr=>jB J (KF C Q fr)
inductive Pos where
 |code (c:Code)
 |ops (all:Array Oper) (l:List Oper)
 |norm
 |exit (i:Nat)
 |ret
structure St where
 fr:List Fr
 E:Env
 pos:Pos
@[reducible] def den (C:Ctx) (Q:QT) (L:List ad):St→Prop
 |⟨fr,E,.code c⟩=>Wp C c (KF C Q fr) E L
 |⟨fr,E,.ops all l⟩=>dr C all l (KF C Q fr) E L
 |⟨fr,E,.norm⟩=>KF C Q fr .normal E L
 |⟨fr,E,.exit i⟩=>KF C Q fr (.exit i) E L
 |⟨fr,E,.ret⟩=>KF C Q fr .ret E L
structure nS where
 sl:List Nat
 fd:List (Nat×Nat×Nat)
def VF (P:Program) (t:Nat):Bool:=match P.underlying t with|some (.slice _)=>true|_=>false
def ig (P:Program) (T:nS):Bool:=T.sl.all (VF P)&&T.fd.all fun x=>match bo P x.1 x.2.1 with|some o=>Nat.beq o x.2.2|none=>false
def Fg (t:Nat):List Nat→Bool
 |[]=>false
 |a::l=>cond (Nat.beq a t) true (Fg t l)
def findF (s f:Nat):List (Nat×Nat×Nat)→Option Nat
 |[]=>none
 |x::l=>cond (Nat.beq x.1 s&&Nat.beq x.2.1 f) (some x.2.2) (findF s f l)
def yO{t:Nat}:∀ {l:List Nat},Fg t l=true→t∈l
 |[],h=>by cases h
 |a::l,h=>by
  unfold Fg at h
  cases hb:Nat.beq a t with
  |true=>rw[Nat.eq_of_beq_eq_true hb];exact .head _
  |false=>rw[hb] at h;exact .tail _ (yO h)
def wz{s f o:Nat}:∀ {l:List (Nat×Nat×Nat)},findF s f l=some o→(s,f,o)∈l
 |[],h=>by cases h
 |x::l,h=>by
  unfold findF at h
  cases hb:(Nat.beq x.1 s&&Nat.beq x.2.1 f) with
  |true=>
   rw[hb] at h
   cases h
   simp only[Bool.and_eq_true] at hb
   rw[←Nat.eq_of_beq_eq_true hb.1,←Nat.eq_of_beq_eq_true hb.2]
   exact .head _
  |false=>rw[hb] at h;exact .tail _ (wz h)
def inI (n:Int):Prop:= -9223372036854775808≤n∧n≤9223372036854775807
def evalOp (T:nS) (E:Env):Op→Option (Option Prop×Value)
 |.move x=>(match au E x with|some v=>some (none,v)|none=>none)
 |.assign x=>(match au E x with|some v=>some (none,v)|none=>none)
 |.pick c x y=>(match au E c with
  |some (.bool true)=>(match au E x with|some v=>some (none,v)|none=>none)
  |some (.bool false)=>(match au E y with|some v=>some (none,v)|none=>none)
  |_=>none)
 |.nilCheck x=>(match au E x with|some (.pointer (some p))=>some (none,.pointer (some p))|_=>none)
 |.extract x i=>(match au E x with|some (.tuple vs)=>(match vs[i]? with|some v=>some (none,v)|none=>none)|_=>none)
 |.unOp .not _ x=>(match au E x with|some (.bool true)=>some (none,.bool false)|some (.bool false)=>some (none,.bool true)|_=>none)
 |.fieldAddr s x f=>(match au E x with|some (.pointer (some ⟨b,p,none⟩))=>(match findF s f T.fd with|some o=>some (none,.pointer (some ⟨b,p+o,none⟩))|none=>none)|_=>none)
 |.call ⟨.builtin bi,⟨[x]⟩,⟨[t]⟩⟩=>(match au E x with
  |some (.slice _ n c)=>(match Fg t T.sl with
   |true=>(match bi with
    |.len=>some (none,.int .i64 n)
    |.cap=>some (none,.int .i64 c)
    |_=>none)
   |false=>none)
  |_=>none)
 |.binOp o _ x y _=>(match au E x,au E y with
  |some (.int k m),some (.int k' n)=>(match decEq k k' with
   |.isTrue _=>(match o with
    |.lss=>some (none,.bool (decide (m<n)))
    |.leq=>some (none,.bool (decide (m≤n)))
    |.gtr=>some (none,.bool (decide (n<m)))
    |.geq=>some (none,.bool (decide (n≤m)))
    |.eql=>some (none,.bool (decide (m=n)))
    |.neq=>some (none,.bool (decide (m≠n)))
    |.add=>(match k with|.i64=>some (some (-9223372036854775808≤m+n∧m+n≤9223372036854775807),.int .i64 (m+n))|_=>none)
    |.sub=>(match k with|.i64=>some (some (-9223372036854775808≤m-n∧m-n≤9223372036854775807),.int .i64 (m-n))|_=>none)
    |.mul=>(match k with|.i64=>some (some (-9223372036854775808≤m*n∧m*n≤9223372036854775807),.int .i64 (m*n))|_=>none)
    |_=>none)
   |.isFalse _=>none)
  |_,_=>none)
 |_=>none
def xj:Option Prop→Prop
 |none=>True
 |some p=>p
def uC{C:Ctx}{T:nS}(hT:ig C.P T=true){E:Env}{L:List ad}{ty:TypeId}{q:Option Prop}{v:Value}{o:Op}(h:evalOp T E o=some (q,v))(hq:xj q):cx C o ty E L v L:=by
 unfold ig at hT
 simp only[Bool.and_eq_true] at hT
 unfold evalOp at h
 split at h
 ·split at h
  ·rename_i hx;cases h;exact jh hx
  ·cases h
 ·split at h
  ·rename_i hx;cases h;exact jZ hx
  ·cases h
 ·split at h
  ·rename_i hc
   split at h
   ·rename_i hx;cases h;exact ow hc hx
   ·cases h
  ·rename_i hc
   split at h
   ·rename_i hx;cases h;exact pR hc hx
   ·cases h
  ·cases h
 ·split at h
  ·rename_i hp;cases h;exact F3 hp
  ·cases h
 ·split at h
  ·rename_i hx
   split at h
   ·rename_i hv;cases h;exact fz hx hv
   ·cases h
  ·cases h
 ·split at h
  ·rename_i hb;cases h;exact n8 hb
  ·rename_i hb;cases h;exact n8 hb
  ·cases h
 ·split at h
  ·rename_i hx
   split at h
   ·rename_i o ho
    cases h
    refine bP ?_ hx
    have:=List.all_eq_true.1 hT.2 _ (wz ho)
    simp only at this
    split at this
    ·rename_i o' ho';rw[ho',Nat.eq_of_beq_eq_true this]
    ·cases this
   ·cases h
  ·cases h
 ·rename_i bi x t
  split at h
  ·rename_i p n c hx
   split at h
   ·rename_i hm
    have:=List.all_eq_true.1 hT.1 _ (yO hm)
    unfold VF at this
    split at this
    ·rename_i e he
     split at h
     ·cases h;exact lA (ty':=0) he hx
     ·cases h;exact N2 (ty':=0) he hx
     ·cases h
    ·cases this
   ·cases h
  ·cases h
 ·split at h
  ·rename_i k m k' n hx hy
   split at h
   ·rename_i e _
    subst e
    split at h<;>first|(cases h;done)|skip
    ·cases h;exact dD hx hy
    ·cases h;exact il hx hy
    ·cases h;exact cR hx hy
    ·cases h;exact rF hx hy
    ·cases h;exact bG hx hy
    ·cases h;exact bO hx hy
    ·split at h
     ·cases h;exact dw hx hy (gI hq.1 hq.2)
     ·cases h
    ·split at h
     ·cases h;exact k5 hx hy (gI hq.1 hq.2)
     ·cases h
    ·split at h
     ·cases h;exact fR hx hy (gI hq.1 hq.2)
     ·cases h
   ·cases h
  ·cases h
 ·cases h
def oK (all:Array Oper) (E:Env) (j:Nat) (want:Bool):Option Bool:=
 match all[j]? with
 |some o=>(match o.dst with
  |some t=>(match E.get t with
   |some (.bool true)=>some want
   |some (.bool false)=>some (!want)
   |some (.tuple vs)=>(match vs with|⟨[]⟩=>some false|_=>none)
   |_=>none)
  |none=>none)
 |none=>none
def pH (T:nS) (n:Nat):St→Option (Option Prop×St)
 |⟨fr,E,.code c⟩=>(match c with
  |.seq x y=>some (none,⟨.sq y::fr,E,.code x⟩)
  |.block i x=>some (none,⟨.bk i::fr,E,.code x⟩)
  |.skip=>some (none,⟨fr,E,.norm⟩)
  |.exit i=>some (none,⟨fr,E,.exit i⟩)
  |.ret=>some (none,⟨fr,E,.ret⟩)
  |.region _ a d=>(match d with|false=>some (none,⟨fr,E,.ops a a.toList⟩)|true=>none)
  |.cond x a b=>(match au E x with|some (.bool true)=>some (none,⟨fr,E,.code a⟩)|some (.bool false)=>some (none,⟨fr,E,.code b⟩)|_=>none)
  |_=>none)
 |⟨fr,E,.ops all l⟩=>(match l with
  |[]=>some (none,⟨fr,E,.norm⟩)
  |o::os=>(match o.dst with
   |none=>none
   |some d=>(match Nat.blt d n with
    |false=>none
    |true=>(match o.guard with
     |none=>(match evalOp T E o.op with|some (q,v)=>some (q,⟨fr,(d,v)::E,.ops all os⟩)|none=>none)
     |some (j,want)=>(match oK all E j want with
      |some true=>(match evalOp T E o.op with|some (q,v)=>some (q,⟨fr,(d,v)::E,.ops all os⟩)|none=>none)
      |some false=>some (none,⟨fr,(d,undef)::E,.ops all os⟩)
      |none=>none)))))
 |⟨fr,E,.norm⟩=>(match fr with
  |.sq c::fr=>some (none,⟨fr,E,.code c⟩)
  |.bk _::fr=>some (none,⟨fr,E,.norm⟩)
  |_=>none)
 |⟨fr,E,.exit i⟩=>(match fr with
  |.bk j::fr=>(match Nat.beq i j with|true=>some (none,⟨fr,E,.norm⟩)|false=>some (none,⟨fr,E,.exit i⟩))
  |.sq _::fr=>some (none,⟨fr,E,.exit i⟩)
  |.lp _::fr=>some (none,⟨fr,E,.exit i⟩)
  |[]=>none)
 |⟨fr,E,.ret⟩=>(match fr with
  |_::fr=>some (none,⟨fr,E,.ret⟩)
  |[]=>none)
def kA (T:nS) (n:Nat):Nat→St→Option Prop→Option (Option Prop×St)
 |0,s,p=>some (p,s)
 |k+1,s,p=>match pH T n s with
  |some (none,s')=>kA T n k s' p
  |some (some q,s')=>(match p with|none=>kA T n k s' (some q)|some p=>kA T n k s' (some (p∧q)))
  |none=>none
section
variable {C:Ctx} {Q:QT} {L:List ad} {E:Env} {fr:List Fr}
def BM{all:Array Oper}{E:Env}{j:Nat}{want:Bool}(hs:oK all E j want=some true):kf all E j=some want:=by
 unfold oK at hs
 unfold kf
 cases hj:all[j]? with
 |none=>rw[hj] at hs;cases hs
 |some oj=>
  rw[hj] at hs
  simp only at hs ⊢
  cases ht:oj.dst with
  |none=>rw[ht] at hs;cases hs
  |some t=>
   rw[ht] at hs
   simp only at hs ⊢
   split at hs
   ·rename_i hb;cases hs;rw[hb]
   ·rename_i hb
    have:want=false:=by cases want<;>simp_all
    subst this;rw[hb]
   ·split at hs<;>cases hs
   ·cases hs
def Au{all:Array Oper}{E:Env}{j:Nat}{want:Bool}(hs:oK all E j want=some false):(∃b,kf all E j=some b∧(b==want)=false)∨(∃oj t,all[j]?=some oj∧oj.dst=some t∧E.get t=some undef):=by
 unfold oK at hs
 unfold kf
 cases hj:all[j]? with
 |none=>rw[hj] at hs;cases hs
 |some oj=>
  rw[hj] at hs
  simp only at hs ⊢
  cases ht:oj.dst with
  |none=>rw[ht] at hs;cases hs
  |some t=>
   rw[ht] at hs
   simp only at hs ⊢
   split at hs
   ·rename_i hb
    have:want=false:=by cases want<;>simp_all
    subst this
    exact .inl ⟨true,by rw[hb],rfl⟩
   ·rename_i hb
    have:want=true:=by cases want<;>simp_all
    subst this
    exact .inl ⟨false,by rw[hb],rfl⟩
   ·rename_i vs hb
    split at hs
    ·exact .inr ⟨oj,t,rfl,ht,hb⟩
    ·cases hs
   ·cases hs
def Xl{all:Array Oper}{o:Oper}{os:List Oper}{R:QT}{j:Nat}{want:Bool}(hg:o.guard=some (j,want))(hs:oK all E j want=some true)(h:dr C all ({o with guard:=none}::os) R E L):dr C all (o::os) R E L:=by
 obtain⟨dst,op,ty,pos,aft,g⟩:=o
 simp only at hg
 subst hg
 exact bB (BM hs) h
def R8{all:Array Oper}{o:Oper}{os:List Oper}{R:QT}{j d:Nat}{want:Bool}(hg:o.guard=some (j,want))(hd:o.dst=some d)(hn:Nat.blt d C.n=true)(hs:oK all E j want=some false)(h:dr C all os R ((d,undef)::E) L):dr C all (o::os) R E L:=by
 obtain⟨dst,op,ty,pos,aft,g⟩:=o
 simp only at hg hd
 subst hg;subst hd
 rcases Au hs with⟨b,h1,h2⟩|⟨oj,t,h1,h2,h3⟩
 ·exact AH h1 h2 hn h
 ·exact yr h1 h2 h3 hn h
def vr{T:nS}(hT:ig C.P T=true){s s':St}{q:Option Prop}(h:pH T C.n s=some (q,s'))(hq:xj q)(g:den C Q L s'):den C Q L s:=by
 obtain⟨fr,E,pos⟩:=s
 cases pos with
 |code c=>
  cases c with
  |seq x y=>cases h;exact ka g
  |block i x=>cases h;exact qN g
  |skip=>cases h;exact UB g
  |exit i=>cases h;exact Tt g
  |ret=>cases h;exact NK g
  |region i a d=>
   cases d with
   |false=>
    cases h
    obtain⟨l⟩:=a
    exact eS (l:=l) g
   |true=>cases h
  |cond x a b=>
   simp only[pH] at h
   split at h
   ·rename_i hx;cases h;exact pV hx g
   ·rename_i hx;cases h;exact Df hx g
   ·cases h
  |loop _=>cases h
  |rangeFunc _ _ _ _=>cases h
  |scope _=>cases h
  |label _=>cases h
  |goto _=>cases h
  |refuse _=>cases h
 |ops all l=>
  cases l with
  |nil=>cases h;exact ga g
  |cons o os=>
   simp only[pH] at h
   split at h
   ·cases h
   ·rename_i d hd
    split at h
    ·cases h
    ·rename_i hn
     have plain:∀ {o:Oper} {v:Value},o.dst=some d→o.guard=none→evalOp T E o.op=some (q,v)→dr C all os (KF C Q fr) ((d,v)::E) L→dr C all (o::os) (KF C Q fr) E L:=by
      rintro⟨dst,op,ty,pos,aft,gd⟩ v h1 h2 h3 h4
      simp only at h1 h2 h3
      subst h1;subst h2
      exact vY (uC hT h3 hq) hn h4
     split at h
     ·rename_i hg
      split at h
      ·rename_i v hv;cases h;exact plain hd hg hv g
      ·cases h
     ·rename_i j want hg
      split at h
      ·rename_i hs
       split at h
       ·rename_i v hv
        cases h
        exact Xl hg hs (plain (o:= {o with guard:=none}) hd rfl hv g)
       ·cases h
      ·rename_i hs;cases h;exact R8 hg hd hn hs g
      ·cases h
 |norm=>
  cases fr with
  |nil=>cases h
  |cons f fr=>
   cases f with
   |sq c=>cases h;exact bJ g
   |bk i=>cases h;exact qY g
   |lp J=>cases h
 |exit i=>
  cases fr with
  |nil=>cases h
  |cons f fr=>
   cases f with
   |sq c=>cases h;exact My g
   |lp J=>cases h;exact My g
   |bk j=>
    simp only[pH] at h
    split at h
    ·rename_i hb
     cases h
     have:=Nat.eq_of_beq_eq_true hb
     subst this
     exact XU g
    ·rename_i hb;cases h;exact Xj hb g
 |ret=>
  cases fr with
  |nil=>cases h
  |cons f fr=>
   cases h
   cases f with
   |sq c=>exact Mc g
   |bk i=>exact XR g
   |lp J=>exact Mc g
def qw{T:nS}(hT:ig C.P T=true):∀(k:Nat) {s s':St} {p q:Option Prop},kA T C.n k s p=some (q,s')→xj q→(xj p→den C Q L s'→den C Q L s)∧xj p
 |0,s,s',p,q,h,hq=>by cases h;exact⟨fun _ g=>g,hq⟩
 |k+1,s,s',p,q,h,hq=>by
  simp only[kA] at h
  split at h
  ·rename_i s1 h1
   obtain⟨h2,h3⟩:=qw hT k h hq
   exact⟨fun hp g=>vr hT h1 trivial (h2 hp g),h3⟩
  ·rename_i r s1 h1
   split at h
   ·obtain⟨h2,h3⟩:=qw hT k h hq
    exact⟨fun _ g=>vr hT h1 h3 (h2 h3 g),trivial⟩
   ·rename_i p'
    obtain⟨h2,h3⟩:=qw hT k h hq
    exact⟨fun _ g=>vr hT h1 h3.2 (h2 h3 g),h3.1⟩
  ·cases h
def tC{T:nS}(hT:ig C.P T=true){k:Nat}{s s':St}(h:kA T C.n k s none=some (none,s'))(g:den C Q L s'):den C Q L s:=(qw hT k h trivial).1 trivial g
def sT{T:nS}(hT:ig C.P T=true){k:Nat}{s s':St}{p:Prop}(h:kA T C.n k s none=some (some p,s'))(hp:p)(g:den C Q L s'):den C Q L s:=(qw hT k h hp).1 trivial g
variable {T:nS} {c:Code} {all:Array Oper} {l:List Oper} {s':St} {J:Env→List ad→Prop} {p:Prop}
def rC(hT:ig C.P T=true)(k:Nat)(h:kA T C.n k ⟨fr,E,.code c⟩ none=some (none,s'))(g:den C Q L s'):Wp C c (KF C Q fr) E L:=tC hT h g
def rO(hT:ig C.P T=true)(k:Nat)(h:kA T C.n k ⟨fr,E,.ops all l⟩ none=some (none,s'))(g:den C Q L s'):dr C all l (KF C Q fr) E L:=tC hT h g
def rN(hT:ig C.P T=true)(k:Nat)(h:kA T C.n k ⟨fr,E,.norm⟩ none=some (none,s'))(g:den C Q L s'):KF C Q fr .normal E L:=tC hT h g
def rT(hT:ig C.P T=true)(k:Nat)(h:kA T C.n k ⟨[],E,.code c⟩ none=some (none,s'))(g:den C Q L s'):Wp C c Q E L:=tC (Q:=Q) hT h g
def rL(hT:ig C.P T=true)(k:Nat)(h:kA T C.n k ⟨.lp J::fr,E,.code c⟩ none=some (none,s'))(g:den C Q L s'):Wp C c (jB J (KF C Q fr)) E L:=tC (Q:=Q) hT h g
def mf(hT:ig C.P T=true)(k:Nat)(h:kA T C.n k ⟨fr,E,.code c⟩ none=some (some p,s'))(hp:p)(g:den C Q L s'):Wp C c (KF C Q fr) E L:=sT hT h hp g
def jC(hT:ig C.P T=true)(k:Nat)(h:kA T C.n k ⟨fr,E,.ops all l⟩ none=some (some p,s'))(hp:p)(g:den C Q L s'):dr C all l (KF C Q fr) E L:=sT hT h hp g
def Ug(hT:ig C.P T=true)(k:Nat)(h:kA T C.n k ⟨fr,E,.norm⟩ none=some (some p,s'))(hp:p)(g:den C Q L s'):KF C Q fr .normal E L:=sT hT h hp g
def HX(hT:ig C.P T=true)(k:Nat)(h:kA T C.n k ⟨[],E,.code c⟩ none=some (some p,s'))(hp:p)(g:den C Q L s'):Wp C c Q E L:=sT (Q:=Q) hT h hp g
def EK(hT:ig C.P T=true)(k:Nat)(h:kA T C.n k ⟨.lp J::fr,E,.code c⟩ none=some (some p,s'))(hp:p)(g:den C Q L s'):Wp C c (jB J (KF C Q fr)) E L:=sT (Q:=Q) hT h hp g
end
end Go.Sl
namespace Go.Sl
def fM (C:Ctx) (all:Array Oper) (l:List Oper) (Q:QT) (E:Env) (L:List ad):Prop:=∀a w,gr C E a→Inv C.w0 L w→wpStill C.P all w (fun a'=>Qh C Q .normal a' w) l a
def tP (all:Array Oper):Nat→List Oper→Bool
  |_,[]=>true
  |i,o::os=>o.after.toList.all (fun e=> !Region.binds .any e||Nat.blt e.on i)&&os.all (fun oj=>oj.after.toList.any (fun e=>Region.binds .any e&&Nat.beq e.on i)||o.apart all oj)&&tP all (i+1) os
def ID (l:List Oper):Bool:=l.all (fun o=>noSelect o.op)&&tP l.toArray 0 l
def rv{all:Array Oper}:∀ {l:List Oper} {i:Nat},tP all i l=true→∀ {k:Nat} {o:Oper},l[k]?=some o→(∀e∈o.after.toList,Region.binds .any e=true→e.on<i+k)∧∀j oj,k<j→l[j]?=some oj→(∃e∈oj.after.toList,Region.binds .any e=true∧e.on=i+k)∨o.apart all oj=true
  |[],i,_,k,o,h=>by simp at h
  |x::l,i,hB,0,o,h=>by
    simp at h
    subst h
    simp only[tP,Bool.and_eq_true] at hB
    refine⟨fun e he hb=>?_,fun j oj hj hoj=>?_⟩
    · have:=List.all_eq_true.1 hB.1.1 e he
      rw[hb] at this
      simpa using fY (by simpa using this)
    · obtain⟨j,rfl⟩:∃j',j=j'+1:=⟨j-1,omg⟩
      have:=List.all_eq_true.1 hB.1.2 oj (List.mem_of_getElem? (by simpa using hoj))
      simp only[Bool.or_eq_true,List.any_eq_true,Bool.and_eq_true] at this
      rcases this with⟨e,he,h1,h2⟩|h
      · exact .inl ⟨e,he,h1,Nat.eq_of_beq_eq_true h2⟩
      · exact .inr h
  |x::l,i,hB,k+1,o,h=>by
    simp only[tP,Bool.and_eq_true] at hB
    obtain⟨h1,h2⟩:=rv hB.2 (by simpa using h:l[k]?=some o)
    refine⟨fun e he hb=>by have:=h1 e he hb;omega,fun j oj hj hoj=>?_⟩
    obtain⟨j,rfl⟩:∃j',j=j'+1:=⟨j-1,omg⟩
    rcases h2 j oj omg (by simpa using hoj) with⟨e,he,hb,hon⟩|h
    · exact .inl ⟨e,he,hb,omg⟩
    · exact .inr h
def mr (n k:Nat):Array Bool:=((List.range n).map fun j=>decide (j<k)).toArray
def rG{n k j:Nat}(d:Bool)(h:j<n):(mr n k).getD j d=decide (j<k):=by
  simp[mr,h]
def acJ{n k j:Nat}(d:Bool)(h:n≤j):(mr n k).getD j d=d:=by
  simp[mr,h]
def K1{n k:Nat}(h:k<n):(mr n k).setIfInBounds k true=mr n (k+1):=by
  apply Array.ext
  · simp[mr]
  · intro i h1 h2
    simp[mr] at h1 h2
    rw[Array.getElem_setIfInBounds (by simpa[mr] using h1)]
    simp only[mr,List.getElem_toArray,List.getElem_map,List.getElem_range]
    by_cases e:k=i
    · subst e;simp
    · rw[if_neg e]
      rw[decide_eq_decide]
      omega
def GG{l:List Oper}(hB:tP l.toArray 0 l=true):∀(m k:Nat),k+m=l.length→Region.lexFrom .any l.toArray m k (mr l.length k)=true
  |0,k,h=>by
    simp only[Region.lexFrom,List.isEmpty_iff]
    apply List.eq_nil_iff_forall_not_mem.2
    intro i hi
    obtain⟨h1,o,ho,_⟩:=mem_ready.1 hi
    have hlt:i<l.length:=by
      have:l[i]?=some o:=by simpa using ho
      exact(List.getElem?_eq_some_iff.1 this).1
    rw[rG _ hlt] at h1
    simp at h1
    omega
  |m+1,k,h=>by
    have hk:k<l.length:=omg
    obtain⟨o,ho⟩:∃o,l[k]?=some o:=⟨l[k],List.getElem?_eq_getElem hk⟩
    obtain⟨h1,h2⟩:=rv hB ho
    rw[Nat.zero_add] at h1 h2
    have hoA:l.toArray[k]?=some o:=by simpa using ho
    simp only[Region.lexFrom,Bool.and_eq_true]
    refine⟨⟨?_,?_⟩,?_⟩
    · rw[List.contains_iff_mem]
      refine mem_ready.2 ⟨by rw[rG _ hk];simp,o,hoA,fun e he hb=>?_⟩
      have:=h1 e (by simpa using he) hb
      rw[rG _ omg]
      simpa using this
    · simp only[Region.free,hoA,List.all_eq_true,List.mem_range]
      intro j hj
      have hj:j<l.length:=by simpa using hj
      obtain⟨oj,hoj⟩:∃oj,l[j]?=some oj:=⟨l[j],List.getElem?_eq_getElem hj⟩
      have hojA:l.toArray[j]?=some oj:=by simpa using hoj
      simp only[hojA,Bool.or_eq_true]
      rcases Nat.lt_trichotomy j k with h3|h3|h3
      · left;right
        rw[rG _ hj];simpa using h3
      · left;left;simp[h3]
      · right
        rcases h2 j oj h3 hoj with⟨e,he,hb,hon⟩|h
        · left
          rw[Array.any_eq_true']
          exact⟨e,by simpa using he,by rw[hb,hon];simp⟩
        · exact .inr h
    · rw[K1 hk]
      exact GG hB m (k+1) omg
def EP{l:List Oper}(h:ID l=true):Region.lexB .any l.toArray=true:=by
  unfold ID at h
  simp only[Bool.and_eq_true] at h
  have e:Array.replicate l.toArray.size false=mr l.length 0:=by
    apply Array.ext
    · simp[mr]
    · intro i h1 h2;simp[mr]
  simp only[Region.lexB,Bool.and_eq_true]
  refine⟨?_,?_⟩
  · unfold Region.noSelect
    rw[Array.all_eq_true_iff_forall_mem]
    intro o ho
    have:=List.all_eq_true.1 h.1 o (by simpa using ho)
    unfold noSelect at this
    split<;>simp_all
  · rw[e]
    have:=GG h.2 l.length 0 omg
    simpa using this
section
variable {C:Ctx} {Q:QT} {E:Env} {L:List ad} {ops:Array Oper} {rest:List Oper} {d:Nat} {ty:TypeId} {pos:String} {aft:Array Edge} {op:Op} {v:Value}
def abM{id:Nat}{l:List Oper}(hm:C.P.follows .mixedOrders=true)(hB:ID l=true)(h:fM C l.toArray l Q E L):Wp C (.region id l.toArray true) Q E L:=
  fun a w ha hi=>wp_region_still_lit hm (EP hB) (h a _ ha hi.drew)
namespace Rg
def ga(h:Q .normal E L):fM C ops [] Q E L:=fun a w ha hi=>⟨E,L,ha,hi,h⟩
def aef(E':Env)(l:Le E' E)(h:fM C ops rest Q E' L):fM C ops rest Q E L:=fun a w ha hi=>h a w (ha.le l) hi
def vY(h:cx C op ty E L v L)(hd:Nat.blt d C.n=true)(hk:Oh op v=true)(k:fM C ops rest Q ((d,v)::E) L):fM C ops (⟨some d,op,ty,pos,aft,none⟩::rest) Q E L:=by
  intro a w ha hi
  refine wpStill_step fun K hK=>?_
  rw[if_pos (by simp[Region.wanted])]
  obtain⟨w',_,_,hr⟩:=h (some d) pos aft none a w ha hi
  unfold Oper.still
  rw[hr hk,Oper.stillUpon_value]
  exact hK _ (k _ _ (ha.put (fY hd) _) hi)
def bB{dst:Option Nat}{j:Nat}{want:Bool}(hg:kf ops E j=some want)(h:fM C ops (⟨dst,op,ty,pos,aft,none⟩::rest) Q E L):fM C ops (⟨dst,op,ty,pos,aft,some (j,want)⟩::rest) Q E L:=by
  intro a w ha hi
  have h1:=h a w ha hi
  have hw:=kX (o:=⟨dst,op,ty,pos,aft,some (j,want)⟩) ha hg rfl
  unfold wpStill at h1 ⊢
  rw[if_pos (by simp[Region.wanted])] at h1
  rw[if_pos (by rw[hw];simp)]
  exact h1
def AH{j:Nat}{want b:Bool}(hg:kf ops E j=some b)(hb:(b==want)=false)(hd:Nat.blt d C.n=true)(h:fM C ops rest Q ((d,undef)::E) L):fM C ops (⟨some d,op,ty,pos,aft,some (j,want)⟩::rest) Q E L:=by
  intro a w ha hi
  have hw:=kX (o:=⟨some d,op,ty,pos,aft,some (j,want)⟩) ha hg rfl
  unfold wpStill
  rw[if_neg (by rw[hw,hb];simp)]
  exact h _ _ (ha.put (fY hd) _) hi
def yr{j t:Nat}{want:Bool}{oj:Oper}(h1:ops[j]?=some oj)(h2:oj.dst=some t)(h3:E.get t=some undef)(hd:Nat.blt d C.n=true)(h:fM C ops rest Q ((d,undef)::E) L):fM C ops (⟨some d,op,ty,pos,aft,some (j,want)⟩::rest) Q E L:=by
  intro a w ha hi
  have hw:=tz (o:=⟨some d,op,ty,pos,aft,some (j,want)⟩) ha h1 h2 h3 rfl
  unfold wpStill
  rw[if_neg (by rw[hw];simp)]
  exact h _ _ (ha.put (fY hd) _) hi
def BQ{b:Bool}(t:Nat)(ht:E.get t=some (.bool b))(hT:b=true→fM C ops rest Q ((t,.bool true)::E) L)(hF:b=false→fM C ops rest Q ((t,.bool false)::E) L):fM C ops rest Q E L:=by
  have key:∀c:Bool,b=c→Le ((t,.bool c)::E) E:=fun c e=>by subst e;exact Le.cons ht (Le.refl _)
  intro a w ha hi
  cases b with
  |true=>exact hT rfl a w (ha.le (key _ rfl)) hi
  |false=>exact hF rfl a w (ha.le (key _ rfl)) hi
def ev{p:Prop}[Decidable p](t:Nat)(ht:E.get t=some (.bool (decide p)))(hT:p→fM C ops rest Q ((t,.bool true)::E) L)(hF:¬p→fM C ops rest Q ((t,.bool false)::E) L):fM C ops rest Q E L:=
  BQ t ht (fun e=>hT (of_decide_eq_true e)) (fun e=>hF (of_decide_eq_false e))
end Rg
def Jw{T:nS}{E:Env}{q:Option Prop}{v:Value}{o:Op}(h:evalOp T E o=some (q,v)):Oh o v=true:=by
  unfold evalOp at h
  split at h
  · rfl
  · rfl
  · rfl
  · rfl
  · rfl
  · rfl
  · rfl
  · split at h
    · split at h
      · split at h
        · cases h;rfl
        · cases h;rfl
        · cases h
      · cases h
    · cases h
  · split at h
    · split at h
      · split at h<;>first|(cases h;done)|(cases h;rfl)|(split at h<;>first|(cases h;done)|(cases h;rfl))
      · cases h
    · cases h
  · cases h
def vh (T:nS) (n:Nat) (all:Array Oper):Nat→List Oper→Env→Option Prop→Option (Option Prop×List Oper×Env)
  |0,l,E,p=>some (p,l,E)
  |k+1,l,E,p=>(match pH T n ⟨[],E,.ops all l⟩ with
    |some (q,s)=>(match s.pos with
      |.ops _ l'=>(match q with
        |none=>vh T n all k l' s.E p
        |some q=>(match p with|none=>vh T n all k l' s.E (some q)|some p=>vh T n all k l' s.E (some (p∧q))))
      |_=>none)
    |none=>none)
def xJ{T:nS}(hT:ig C.P T=true){l:List Oper}{all a2:Array Oper}{l':List Oper}{fr':List Fr}{E':Env}{q:Option Prop}(h:pH T C.n ⟨[],E,.ops all l⟩=some (q,⟨fr',E',.ops a2 l'⟩))(hq:xj q)(g:fM C all l' Q E' L):fM C all l Q E L:=by
  cases l with
  |nil=>cases h
  |cons o os=>
    simp only[pH] at h
    split at h
    · cases h
    · rename_i d hd
      split at h
      · cases h
      · rename_i hn
        have plain:∀ {o:Oper} {v:Value},o.dst=some d→o.guard=none→evalOp T E o.op=some (q,v)→fM C all os Q ((d,v)::E) L→fM C all (o::os) Q E L:=by
          rintro⟨dst,op,ty,pos,aft,gd⟩ v h1 h2 h3 h4
          simp only at h1 h2 h3
          subst h1;subst h2
          exact Rg.vY (uC hT h3 hq) hn (Jw h3) h4
        split at h
        · split at h
          · rename_i hg _ _ _ hv;cases h;exact plain hd hg hv g
          · cases h
        · rename_i j want hg
          split at h
          · rename_i hs
            split at h
            · rename_i hv
              cases h
              obtain⟨dst,op,ty,pos,aft,gd⟩:=o
              simp only at hg hd
              subst hg;subst hd
              refine Rg.bB ?_ (plain (o:=⟨_,op,ty,pos,aft,none⟩) rfl rfl hv g)
              exact BM hs
            · cases h
          · rename_i hs
            cases h
            obtain⟨dst,op,ty,pos,aft,gd⟩:=o
            simp only at hg hd
            subst hg;subst hd
            rcases Au hs with⟨b,h1,h2⟩|⟨oj,t,h1,h2,h3⟩
            · exact Rg.AH h1 h2 hn g
            · exact Rg.yr h1 h2 h3 hn g
          · cases h
def qH{T:nS}(hT:ig C.P T=true){all:Array Oper}:∀(k:Nat) {l l':List Oper} {E E':Env} {p q:Option Prop},vh T C.n all k l E p=some (q,l',E')→xj q→(xj p→fM C all l' Q E' L→fM C all l Q E L)∧xj p
  |0,l,l',E,E',p,q,h,hq=>by cases h;exact⟨fun _ g=>g,hq⟩
  |k+1,l,l',E,E',p,q,h,hq=>by
    simp only[vh] at h
    split at h
    · rename_i q1 s1 h1
      obtain⟨fr1,E1,pos1⟩:=s1
      cases pos1 with
      |ops a2 l2=>
        simp only at h
        cases q1 with
        |none=>
          obtain⟨h2,h3⟩:=qH hT k h hq
          exact⟨fun hp g=>xJ hT h1 trivial (h2 hp g),h3⟩
        |some r=>
          cases p with
          |none=>
            obtain⟨h2,h3⟩:=qH hT k h hq
            exact⟨fun _ g=>xJ hT h1 h3 (h2 h3 g),trivial⟩
          |some p'=>
            obtain⟨h2,h3⟩:=qH hT k h hq
            exact⟨fun _ g=>xJ hT h1 h3.2 (h2 h3 g),h3.1⟩
      |code _=>cases h
      |norm=>cases h
      |exit _=>cases h
      |ret=>cases h
    · cases h
def rR{T:nS}(hT:ig C.P T=true)(k:Nat){all:Array Oper}{l l':List Oper}{E':Env}(h:vh T C.n all k l E none=some (none,l',E'))(g:fM C all l' Q E' L):fM C all l Q E L:=(qH hT k h trivial).1 trivial g
def zV{T:nS}(hT:ig C.P T=true)(k:Nat){all:Array Oper}{l l':List Oper}{E':Env}{p:Prop}(h:vh T C.n all k l E none=some (some p,l',E'))(hp:p)(g:fM C all l' Q E' L):fM C all l Q E L:=(qH hT k h hp).1 trivial g
end
end Go.Sl
namespace Go.Sl
def calm (o:Oper):Oper:= {o with op:=.move (.const undef)}
def FK (l:List Oper):List Oper:=l.dropLast++(match l.getLast? with|some o=>[calm o]|none=>[])
def N6 (l:List Oper):Bool:=match l.getLast? with
 |some o=>(List.range (l.length-1)).all (fun j=>o.after.toList.any fun e=>Region.binds .any e&&Nat.beq e.on j)&&noSelect o.op
 |none=>false
def reB (l:List Oper):Bool:=ID (FK l)&&N6 l
def Env.del (d:Nat):Env→Env
 |[]=>[]
 |(k,v)::E=>cond (Nat.beq k d) (Env.del d E) ((k,v)::Env.del d E)
def Env.xB{d k:Nat}{u:Value}:∀ {E:Env},(E.del d).get k=some u→k≠d∧E.get k=some u
 |[],h=>by cases h
 |(q,y)::E,h=>by
  rw[Env.jv]
  unfold Env.del at h
  cases hq:Nat.beq q d with
  |true=>
   rw[hq] at h
   obtain⟨h1,h2⟩:=Env.xB h
   have:q=d:=Nat.eq_of_beq_eq_true hq
   exact⟨h1,by rw[if_neg omg];exact h2⟩
  |false=>
   rw[hq] at h
   simp only[cond_false] at h
   rw[Env.jv] at h
   have hqd:q≠d:=fun e=>by subst e;rw[Nat.beq_refl] at hq;cases hq
   by_cases hqk:q=k
   ·rw[if_pos hqk] at h ⊢;exact⟨omg,h⟩
   ·rw[if_neg hqk] at h ⊢;exact Env.xB h
def xg (C:Ctx) (l:List Oper) (Q:QT):QT:=fun e E L=>match l.getLast? with
 |some o=>(match o.dst with|some d=>dr C l.toArray [o] Q (E.del d) L|none=>dr C l.toArray [o] Q E L)
 |none=>False
def RB{l:List Oper}{o:Oper}(h:l.getLast?=some o):l=l.dropLast++[o]∧FK l=l.dropLast++[calm o]:=by
 have hne:l≠[]:=by intro e;subst e;cases h
 have e1:=List.dropLast_concat_getLast hne
 have e2:l.getLast hne=o:=by rw[List.getLast?_eq_some_getLast hne] at h;exact Option.some.inj h
 rw[e2] at e1
 exact⟨e1.symm,by unfold FK;rw[h]⟩
section
variable {P:Program} {w:World}
def ta{l0:List Oper}{o:Oper}(tm:Array Value):yielded (l0++[calm o]).toArray tm=yielded (l0++[o]).toArray tm:=by
 funext j
 unfold yielded
 simp only[List.getElem?_toArray]
 rcases Nat.lt_or_ge j l0.length with h|h
 ·rw[List.getElem?_append_left h,List.getElem?_append_left h]
 ·rw[List.getElem?_append_right h,List.getElem?_append_right h]
  cases j-l0.length with
  |zero=>rfl
  |succ k=>simp
def ra{l0:List Oper}{o:Oper}(listed:Array Bool):Region.ready .any (l0++[calm o]).toArray listed=Region.ready .any (l0++[o]).toArray listed:=by
 unfold Region.ready
 simp only[List.size_toArray,List.length_append,List.length_singleton]
 apply List.filter_congr
 intro i hi
 congr 1
 simp only[List.getElem?_toArray]
 rcases Nat.lt_or_ge i l0.length with h|h
 ·rw[List.getElem?_append_left h,List.getElem?_append_left h]
 ·rw[List.getElem?_append_right h,List.getElem?_append_right h]
  cases i-l0.length with
  |zero=>rfl
  |succ k=>simp
def rH{l0:List Oper}{o:Oper}{K K':Act→Prop}(hK:∀a,K a→K' a):∀(l:List Oper) (a:Act),wpStill P (l0++[o]).toArray w K l a→wpStill P (l0++[calm o]).toArray w K' l a
 |[],a,h=>hK a h
 |x::l,a,h=>by
  unfold wpStill at h ⊢
  rw[ta]
  split
  ·rename_i hw
   rw[if_pos hw] at h
   exact Oper.still_mono (fun a h=>rH hK l a h) h
  ·rename_i hw
   rw[if_neg hw] at h
   exact rH hK l _ h
def oB{ops:Array Oper}{K:Act→Prop}:∀(l l':List Oper) (a:Act),wpStill P ops w (fun a=>wpStill P ops w K l' a) l a→wpStill P ops w K (l++l') a
 |[],l',a,h=>h
 |x::l,l',a,h=>by
  rw[List.cons_append]
  unfold wpStill at h ⊢
  split
  ·rename_i hw
   rw[if_pos hw] at h
   exact Oper.still_mono (fun a h=>oB l l' a h) h
  ·rename_i hw
   rw[if_neg hw] at h
   exact oB l l' _ h
def EY{ops:Array Oper}{o:Oper}{K:Act→Prop}{a:Act}(h:K (a.put o.dst undef)):wpStill P ops w K [calm o] a:=by
 unfold wpStill
 have e:(calm o).dst=o.dst:=rfl
 split
 ·unfold Oper.still
  have hr:(execOp a.eval (calm o)).run P w=.ok (.value undef) w:=by simp[calm,execOp,Act.eval]
  rw[hr,Oper.stillUpon_value,e]
  exact h
 ·rw[e];exact h
def Kt{l0:List Oper}{o:Oper}{Q:Exit→Act→World→Prop}{Q':Act→Prop}(hlt:∀e∈o.after.toList,Region.binds .any e=true→e.on<l0.length)(hsm:∀k x,l0[k]?=some x→∀e∈x.after.toList,Region.binds .any e=true→e.on<k)
  (hwait:∀j,j<l0.length→∃e∈o.after.toList,Region.binds .any e=true∧e.on=j)
  (hK:∀a,Q' (a.put o.dst undef)→∀K:Act→World→Prop,(∀a w,Q .normal a w→K a w)→if Region.wanted o (yielded (l0++[o]).toArray a.tmps) then(o.wp P a w K Q∨(o.asks P a w∧LetsOut Q)) else K (a.put o.dst undef) w):
  ∀(fuel:Nat) (listed:Array Bool) (a:Act),listed.size=l0.length+1→listed.getD l0.length true=false→wpAnyS P .any (l0++[calm o]).toArray w Q' fuel listed a→wpAny P .any (l0++[o]).toArray Q fuel listed a w:=by
 have hne:∀listed:Array Bool,listed.size=l0.length+1→listed.getD l0.length true=false→Region.ready .any (l0++[o]).toArray listed≠[]:=by
  intro listed hs hl h0
  have key:∀i,i<l0.length→listed.getD i true=true:=by
   intro i
   induction i using Nat.strongRecOn with
   |_ i ih=>
    intro hi
    cases hd:listed.getD i true with
    |true=>rfl
    |false=>
     exfalso
     have:i∈Region.ready .any (l0++[o]).toArray listed:=mem_ready.2 ⟨hd,l0[i],by simp[List.getElem?_append_left hi,hi],fun e he hb=>by
      have hlt2:=hsm i _ (List.getElem?_eq_getElem hi) e (by simpa using he) hb
      have:=ih e.on hlt2 omg
      have hsz:e.on<listed.size:=omg
      simp[hsz] at this ⊢
      exact this⟩
     rw[h0] at this;cases this
  have:l0.length∈Region.ready .any (l0++[o]).toArray listed:=mem_ready.2 ⟨hl,o,by simp,fun e he hb=>by
   have hlt2:=hlt e (by simpa using he) hb
   have:=key e.on hlt2
   have hsz:e.on<listed.size:=omg
   simp[hsz] at this ⊢
   exact this⟩
  rw[h0] at this;cases this
 intro fuel
 induction fuel with
 |zero=>
  intro listed a hs hl h
  have:=h.1
  rw[ra] at this
  exact absurd this (hne listed hs hl)
 |succ fuel ih=>
  intro listed a hs hl h
  refine⟨fun h0=>absurd h0 (hne listed hs hl),fun i hi=>?_⟩
  have h1:=h.2 i (by rw[ra];exact hi)
  obtain⟨hun,x,hx,hall⟩:=mem_ready.1 hi
  have hx':(l0++[o])[i]?=some x:=by simpa using hx
  have hile:i<l0.length+1:=by
   have:=(List.getElem?_eq_some_iff.1 hx').1
   simpa using this
  rcases Nat.lt_or_ge i l0.length with hi2|hi2
  ·--one of the first
   have hxc:(l0++[calm o]).toArray[i]?=some x:=by
    simp only[List.getElem?_toArray]
    rw[List.getElem?_append_left hi2] at hx' ⊢
    exact hx'
   have h2:stOp P (l0++[o]).toArray w i (wpAnyS P .any (l0++[calm o]).toArray w Q' fuel (listed.setIfInBounds i true)) a:=by
    unfold stOp at h1 ⊢
    rw[hxc] at h1
    rw[hx]
    simp only at h1 ⊢
    rw[ta] at h1
    exact h1
   refine wpOp_of_stOp (fun a' h3=>ih _ a' (by simp[hs]) ?_ h3) h2
   rw[getD_set_ne true omg]
   exact hl
  ·--the last one
   have hil:i=l0.length:=omg
   subst hil
   have hxo:x=o:=by simpa using hx'.symm
   subst hxo
   have hxc:(l0++[calm x]).toArray[l0.length]?=some (calm x):=by simp
   have hlisted:Region.ready .any (l0++[x]).toArray (listed.setIfInBounds l0.length true)=[]:=by
    apply List.eq_nil_iff_forall_not_mem.2
    intro j hj
    obtain⟨g1,y,hy,_⟩:=mem_ready.1 hj
    have hy':(l0++[x])[j]?=some y:=by simpa using hy
    have hjl:j<l0.length+1:=by
     have:=(List.getElem?_eq_some_iff.1 hy').1
     simpa using this
    rcases Nat.lt_or_ge j l0.length with hj2|hj2
    ·obtain⟨e,he,hb,hon⟩:=hwait j hj2
     have:=hall e (by simpa using he) hb
     rw[hon] at this
     rw[getD_set_ne true omg] at g1
     have hsz:j<listed.size:=omg
     simp[hsz] at this g1
     rw[this] at g1;cases g1
    ·have:j=l0.length:=omg
     subst this
     simp[hs] at g1
   have h3:Q' (a.put x.dst undef):=by
    unfold stOp at h1
    rw[hxc] at h1
    simp only at h1
    have hfin:∀a',wpAnyS P .any (l0++[calm x]).toArray w Q' fuel (listed.setIfInBounds l0.length true) a'→Q' a':=by
     intro a' h4
     have hr0:Region.ready .any (l0++[calm x]).toArray (listed.setIfInBounds l0.length true)=[]:=by rw[ra];exact hlisted
     cases fuel with
     |zero=>exact h4.2
     |succ f=>exact h4.1 hr0
    have hr:(execOp a.eval (calm x)).run P w=.ok (.value undef) w:=by simp[calm,execOp,Act.eval]
    split at h1
    ·unfold Oper.still at h1
     rw[hr,Oper.stillUpon_value] at h1
     exact hfin _ h1
    ·exact hfin _ h1
   have h4:=hK a h3 (wpAny P .any (l0++[x]).toArray Q fuel (listed.setIfInBounds l0.length true)) (fun a' w' hq=>wpAny_done hlisted hq fuel)
   unfold wpOp
   simp only[hx]
   split
   ·rename_i hw;rw[if_pos hw] at h4;exact h4
   ·rename_i hw;rw[if_neg hw] at h4;exact h4
end
section
variable {C:Ctx} {Q:QT} {E:Env} {L:List ad}
def gr.XN{E':Env}{a a0:Act}{d:Nat}{v:Value}(h:gr C E' a0)(e:a.put (some d) v=a0.put (some d) v):gr C (E'.del d) a:=by
 have e1:a.defers=a0.defers:=(congrArg (fun z:Act=>z.defers) e:(a.put (some d) v).defers=(a0.put (some d) v).defers)
 have e2:a.tmps.setIfInBounds d v=a0.tmps.setIfInBounds d v:=(congrArg (fun z:Act=>z.tmps) e:(a.put (some d) v).tmps=(a0.put (some d) v).tmps)
 refine⟨e1.trans h.defers,?_,fun k u hk=>?_⟩
 ·have:=congrArg Array.size e2
  simp only[Array.size_setIfInBounds] at this
  exact this.trans h.size
 ·obtain⟨h1,h2⟩:=Env.xB hk
  have h3:=h.get k u h2
  have h4:=congrArg (fun z:Array Value=>z[k]?) e2
  rw[Array.getElem?_setIfInBounds_ne (fun e=>h1 e.symm),Array.getElem?_setIfInBounds_ne (fun e=>h1 e.symm)] at h4
  rw[h4];exact h3
def pN{P:Program}{w:World}{ops:Array Oper}{K K':Act→Prop}(hK:∀a,K a→K' a):∀(l:List Oper) (a:Act),wpStill P ops w K l a→wpStill P ops w K' l a
 |[],a,h=>hK a h
 |x::l,a,h=>by
  unfold wpStill at h ⊢
  split
  ·rename_i hw
   rw[if_pos hw] at h
   exact Oper.still_mono (fun a h=>pN hK l a h) h
  ·rename_i hw
   rw[if_neg hw] at h
   exact pN hK l _ h
def aeW{id:Nat}{l:List Oper}(hm:C.P.follows .mixedOrders=true)(hB:reB l=true)(h:fM C l.toArray l.dropLast (xg C l Q) E L):Wp C (.region id l.toArray true) Q E L:=by
 intro a w ha hi
 unfold reB at hB
 simp only[Bool.and_eq_true] at hB
 obtain⟨hB1,hB2⟩:=hB
 unfold N6 at hB2
 cases hl:l.getLast? with
 |none=>rw[hl] at hB2;cases hB2
 |some o=>
  rw[hl] at hB2
  simp only[Bool.and_eq_true] at hB2
  obtain⟨e1,e2⟩:=RB hl
  rw[e2] at hB1
  have hB0:=hB1
  generalize hl0:l.dropLast=l0 at*
  have hlen:l.length-1=l0.length:=by rw[e1];simp
  rw[hlen] at hB2
  unfold ID at hB1
  simp only[Bool.and_eq_true] at hB1
  refine wp_region_any hm ?_
  have hh:=h a {w with drawn:=w.drawn+1} ha hi.drew
  have hs1:wpStill C.P (l0++[calm o]).toArray {w with drawn:=w.drawn+1} (fun a=>Qh C (xg C l Q) .normal a {w with drawn:=w.drawn+1}) l0 a:=by
   have:wpStill C.P (l0++[o]).toArray {w with drawn:=w.drawn+1} (fun a=>Qh C (xg C l Q) .normal a {w with drawn:=w.drawn+1}) l0 a:=by rw[←e1];exact hh
   exact rH (fun _ h=>h) l0 a this
  have hs2:wpStill C.P (l0++[calm o]).toArray {w with drawn:=w.drawn+1} (fun a=>∃a0,a=a0.put o.dst undef∧Qh C (xg C l Q) .normal a0 {w with drawn:=w.drawn+1}) (l0++[calm o]) a:=
   oB l0 [calm o] a (pN (fun a h=>EY ⟨a,rfl,h⟩) l0 a hs1)
  have hlx:=EP hB0
  simp only[Region.lexB,Bool.and_eq_true] at hlx
  have hS:=wpAnyS_lex (md:=.any) (ops:=(l0++[calm o]).toArray) hlx.1 (l0++[calm o]) 0 (Array.replicate (l0++[calm o]).toArray.size false) a (by simp) (by simpa using hlx.2) hs2
  have hA:=Kt (l0:=l0) (o:=o) (w:= {w with drawn:=w.drawn+1}) (Q:=Qh C Q) ?_ ?_ ?_ ?_ (l0++[calm o]).length (Array.replicate (l0++[calm o]).toArray.size false) a (by simp) (by simp) hS
  ·rw[←e1] at hA
   have hsz:(l0++[calm o]).length=l.toArray.size:=by rw[e1];simp
   rw[hsz] at hA
   have hsz2:(l0++[calm o]).toArray.size=l.toArray.size:=by simpa using hsz
   rw[hsz2] at hA
   exact hA
  ·intro e he hb
   have:=(rv hB1.2 (k:=l0.length) (o:=calm o) (by simp)).1 e he hb
   omega
  ·intro k x hx e he hb
   have hk:k<l0.length:=(List.getElem?_eq_some_iff.1 hx).1
   have:=(rv hB1.2 (k:=k) (o:=x) (by rw[List.getElem?_append_left hk];exact hx)).1 e he hb
   omega
  ·intro j hj
   have:=List.all_eq_true.1 hB2.1 j (List.mem_range.2 hj)
   obtain⟨e,he,h2⟩:=List.any_eq_true.1 this
   simp only[Bool.and_eq_true] at h2
   exact⟨e,he,h2.1,Nat.eq_of_beq_eq_true h2.2⟩
  ·rintro a1 ⟨a0,hp,E1,L1,g1,g2,g3⟩ K hK
   have fin:wpList C.P l.toArray (Qh C Q) [o] a1 {w with drawn:=w.drawn+1}→if Region.wanted o (yielded (l0++[o]).toArray a1.tmps) then(o.wp C.P a1 {w with drawn:=w.drawn+1} K (Qh C Q)∨(o.asks C.P a1 {w with drawn:=w.drawn+1}∧LetsOut (Qh C Q))) else K (a1.put o.dst undef) {w with drawn:=w.drawn+1}:=by
    intro h5
    rw[←e1]
    unfold wpList at h5
    split
    ·rename_i hw
     rw[if_pos hw] at h5
     exact h5.imp (Oper.wp_mono (fun a w h=>hK a w h)) (fun h=>h)
    ·rename_i hw
     rw[if_neg hw] at h5
     exact hK _ _ h5
   unfold xg at g3
   rw[hl] at g3
   simp only at g3
   cases hd:o.dst with
   |none=>
    rw[hd] at g3 hp
    have:a1=a0:=hp
    subst this
    have:=fin (g3 a1 _ g1 g2)
    rw[hd] at this
    exact this
   |some d=>
    rw[hd] at g3 hp
    have:=fin (g3 a1 _ (g1.XN hp) g2)
    rw[hd] at this
    exact this
end
end Go.Sl
namespace Go.Sl
section
variable {C:Ctx} {Q:QT} {E:Env} {L:List ad} {ops:Array Oper} {rest:List Oper} {d:Nat} {ty:TypeId} {pos:String} {aft:Array Edge}
def ui(l:List Int)(h:∀x∈l,0≤x∧x<256):(strOfNums l).data.toList.map (fun b=>Value.int .u8 b.toNat)=l.map (Value.int .u8):=by
  unfold strOfNums
  simp only[List.map_map]
  refine List.map_congr_left fun x hx=>?_
  have:=h x hx
  simp only[Function.comp_apply,UInt8.toNat_ofNat',Value.int.injEq,true_and]
  rw[Nat.mod_eq_of_lt omg]
  omega
def OT{l m:List Int}(hl:∀x∈l,0≤x∧x<256)(hm:∀x∈m,0≤x∧x<256)(h:strOfNums l=strOfNums m):l=m:=by
  have e:=ui l hl
  rw[h,ui m hm] at e
  exact(List.map_inj_right (fun x y e=>by cases e;rfl)).1 e.symm
def lJ(l:List Int):(strOfNums l).size=l.length:=by simp[strOfNums,ByteArray.size]
def Ie{s x:Operand}{t tS e sz cJ n m cap:Nat}{p:Option Addr}{vs ws zs:List Value}{u:ByteArray}{F:List ad}
    (ht:sliceB C.P t=some (e,sz,cJ)) (hS:C.P.underlying tS=some .string) (hz:cW C.P e=some zs) (hs1:sz=1) (hby:Nat.ble 1 cJ=true)
    (hs:au E s=some (.slice p n cap)) (hx:au E x=some (.string u)) (hu:u.data.toList.map (fun b=>Value.int .u8 b.toNat)=ws) (hum:u.size=m)
    (hL:ij L (Sl p n cap e sz vs) F) (hb:(n+m)*cJ≤140737488355328):
    lk C (.call ⟨.builtin .append,[s,x].toArray, #[t,tS]⟩) ty E L (fun v L'=>∃p' cap',v=.slice p' (n+m) cap'∧L'=Sl p' (n+m) cap' e sz (vs++ws)::F):=by
  intro d pos aft g a w K Qx ha hi hK
  obtain⟨ht1,i,hi2,rfl,rfl⟩:=j8 ht
  obtain⟨i',z,hz1,hz2,hz3,hz4⟩:=kJ hz
  rw[hi2] at hz1
  cases hz1
  have hby:=Nat.le_of_ble_eq_true hby
  have hnm:n+m≤(n+m)*i.bytes:=Nat.le_mul_of_pos_right _ hby
  have hsmall:n+m≤140737488355328:=omg
  have hwl:ws.length=m*i.size:=by rw[←hu,hs1,Nat.mul_one,←hum,List.length_map,Array.length_toList];rfl
  obtain⟨consts,hrun⟩:=kp (C:=C) (ty:=ty) (pos:=pos) (aft:=aft) (b:=.append) (xs:=[s,x]) (tys:= #[t,tS]) (vs:=[.slice p n cap,.string u]) (a:=a) (by simp[ha.eval hs,ha.eval hx]) d g w
  suffices h:∃p' cap' w',(Builtin.append_ #[t,tS] ty #[.slice p n cap,.string u]).run C.P w=.ok (.slice p' (n+m) cap') w'∧Inv C.w0 (Sl p' (n+m) cap' e i.size (vs++ws)::F) w' by
    obtain⟨p',cap',w',hr,hi'⟩:=h
    unfold Oper.wp
    rw[hrun]
    simp only[builtin,Sem.run_bind,hr,Result.andThen_ok,Sem.run_pure]
    exact hK _ _ _ ⟨p',cap',rfl,rfl⟩ hi'
  have hfirst:∀w1:World,(Builtin.firstCells i.size m (.string u)).run C.P w1=.ok ws.toArray w1:=by
    intro w1
    have e0:u.extract 0 m=u:=by
      rw[←hum]
      exact ByteArray.extract_zero_size
    simp only[Builtin.firstCells,e0,Sem.run_pure]
    congr 1
    apply Array.ext'
    simp[←hu]
  have hall:∀y∈ws,y.oneCell'=true:=fun y hy=>by
    rw[←hu] at hy
    obtain⟨b,_,rfl⟩:=List.mem_map.1 hy
    rfl
  have hgrow:∀(vs0:List Value),vs0=vs→n*i.size=vs.length→cap<n+m→
      (∀w1:World,(∀q,w1.cell? q=w.cell? q)→(Builtin.firstCells i.size n (.slice p n cap)).run C.P w1=.ok vs.toArray w1)→
      Inv C.w0 F w→
      ∃p' cap' w',(Builtin.append_ #[t,tS] ty #[.slice p n cap,.string u]).run C.P w=.ok (.slice p' (n+m) cap') w'∧Inv C.w0 (Sl p' (n+m) cap' e i.size (vs++ws)::F) w':=by
    intro vs0 _ hvl hlt hold hiF
    have hfit:Builtin.nextslicecap (n+m) cap*i.bytes≤281474976710656:=growslice_fits hlt hb
    have h63:¬(9223372036854775807<((n:Int)+(m:Int))):=omg
    have h48:¬(281474976710656<Builtin.nextslicecap (n+m) cap*i.bytes):=omg
    have hng:¬(n+m≤cap):=omg
    refine⟨some ⟨w.heap.size,0,none⟩,grownCap w (n+m) cap e,w.drew.alloc (.cells (vs++ws++(Builtin.zeroCells z.cells (grownCap w (n+m) cap e-(n+m))).toList).toArray e),?_,?_⟩
    · have e1:=hold w.drew (fun q=>by simp)
      have e2:=hfirst w.drew
      have harr:∀Z:Array Value,(vs++ws++Z.toList).toArray=vs.toArray++ws.toArray++Z:=fun Z=>by apply Array.ext';simp
      rw[harr]
      simp[Builtin.append_,run_underlying ht1,run_underlying hS,sizeOf,typeInfo,zeroValue,hi2,hz2,Builtin.lenOf,hum,hng,h63,h48,Question.forced,e1,e2,newRow,grownCap]
      congr 1
      congr 1
      apply Array.ext'
      simp
    · have hge:=grownCap_ge w (n+m) cap e
      refine Inv.imp ?_ (hiF.drew.alloc e (vs++ws++(Builtin.zeroCells z.cells (grownCap w (n+m) cap e-(n+m))).toList))
      intro h hc
      refine .inr ⟨_,0,[],(Builtin.zeroCells z.cells (grownCap w (n+m) cap e-(n+m))).toList,rfl,by simpa using hc,rfl,?_,?_,hge⟩
      · simp[←hvl,hwl,Nat.add_mul]
      · have:z.cells.size=i.size:=by rw[hz3,hz4];simp
        simp[size_zeroCells,this]
  obtain⟨zz,hzz,hi1⟩:=(hi.perm hL.perm).zr (Sl.open_ C.w0)
  cases zz with
  |none=>
    obtain⟨rfl,rfl,rfl,rfl⟩:=hzz
    by_cases hm0:m=0
    · subst hm0
      simp at hwl
      subst hwl
      refine⟨none,0,w,?_,(hi1.Gn e i.size)⟩
      have e1:=hfirst w
      simp[Builtin.append_,run_underlying ht1,run_underlying hS,sizeOf,typeInfo,hi2,Builtin.lenOf,hum,e1]
    · exact hgrow [] rfl (by simp) omg (fun w1 _=>by simp[Builtin.firstCells]) hi1
  |some zz=>
    obtain⟨b,o,pre,post⟩:=zz
    obtain⟨rfl,e1,e2,e3,e4⟩:=hzz
    by_cases hroom:n+m≤cap
    · have hfit:o+n*i.size+ws.length≤(pre++vs++post).length:=by
        have:(n+m-n)*i.size≤(cap-n)*i.size:=Nat.mul_le_mul_right _ omg
        rw[show n+m-n=m by omega] at this
        simp only[List.length_append,e1,e2,hwl]
        omega
      obtain⟨w',hr,hi'⟩:=jO (C:=C) ws (o+n*i.size) 0 _ _ w hall (by simpa using hfit) hi1
      refine⟨some ⟨b,o,none⟩,cap,w',?_,?_⟩
      · have hf:=hfirst w
        simp[Builtin.append_,run_underlying ht1,run_underlying hS,sizeOf,typeInfo,hi2,Builtin.lenOf,hum,hroom,hf,Addr.gl,hr]
      · refine Inv.cls (B:=[ai b e (pre++(vs++ws)++post.drop ws.length)]) (fun h hc=>Sl.mk hc e1 (by simp[e2,hwl,Nat.add_mul]) ?_ hroom) ?_
        · simp only[List.length_drop,hwl]
          have:(cap-(n+m))*i.size=(cap-n)*i.size-m*i.size:=by rw[←Nat.sub_mul];congr 1;omega
          omega
        · have e5:(pre++vs++post).take (o+n*i.size+0)=pre++vs:=by
            rw[Nat.add_zero]
            exact List.take_left' (by simp[e1,e2])
          have e6:(pre++vs++post).drop (o+n*i.size+0+ws.length)=post.drop ws.length:=by
            rw[Nat.add_zero,show o+n*i.size+ws.length=(pre++vs).length+ws.length by simp[e1,e2]]
            rw[←List.drop_drop,List.drop_left]
          rw[e5,e6] at hi'
          simpa[List.append_assoc] using hi'
    · refine hgrow vs rfl e2.symm omg (fun w1 hw1=>?_) hi1.tail
      refine run_firstCells_some (P:=C.P) w1 i.size n _ n cap vs e2 (fun j v hj=>?_)
      have hlt:=(List.getElem?_eq_some_iff.1 hj).1
      rw[hw1,Addr.gl,Inv.jq hi1]
      rw[List.append_assoc,List.getElem?_append_right omg,show o+j-pre.length=j by omega,List.getElem?_append_left hlt]
      exact hj
def rU{l m:List Int}(hl:∀x∈l,0≤x∧x<256)(hm:∀x∈m,0≤x∧x<256)(h:l≠m):((strOfNums l).toList==(strOfNums m).toList)=false:=by
  refine beq_eq_false_iff_ne.2 fun e=>h (OT hl hm ?_)
  exact ByteArray.ext (Array.ext' (by rw[←ByteArray.toList_eq,←ByteArray.toList_eq,e]))
end
end Go.Sl
namespace Go.Sl
section
variable {C:Ctx} {E0:Env} {Q:QT} {L:List ad} {l:List Oper} {ts:List dR} {i:Nat} {c:iq} {op:Op} {os:List Oper} {ps:List eu} {f:Yv→Value} {K:iq→Prop} {A0:List ad} {p:eu} {d:Option Nat} {ty:TypeId} {pos:String} {aft:Array Edge} {o:Oper}
def nV(h:∀y,(∀j∈p.gC,dI c i j y)→∀L,cx C op ty (lI l E0 p i c y) L (f y) L)(r:iD C l E0 ts A0 (i+1) (c.put f (fun _=>True)) os ps K)
    (hc:iR ts i=[]:=by rfl) (hr:fo ts i=[]:=by rfl) (hp:im ts i=[]:=by rfl) (hf:∀y v,f (ek y i v)=f y:=by intros;rfl) (hl:Loc i p f:=by intro y y2 h;rfl):iD C l E0 ts A0 i c (⟨d,op,ty,pos,aft,none⟩::os) (p::ps) K:=
  dv _ (fun y=>rfl) hc hr hp (fun y hA L=>dm (h y hA L) ⟨rfl,rfl⟩) hf hl r
def nR(h:∀y A,(∀j∈p.gC,dI c i j y)→cx C op ty (lI l E0 p i c y) (e9 (fo ts i) y++A) (f y) (e9 (fo ts i) y++A))(r:iD C l E0 ts A0 (i+1) (c.put f (fun _=>True)) os ps K)
    (hc:iR ts i=[]:=by rfl) (hp:im ts i=[]:=by rfl) (hf:∀y v,f (ek y i v)=f y:=by intros;rfl) (hl:Loc i p f:=by intro y y2 h;rfl):iD C l E0 ts A0 i c (⟨d,op,ty,pos,aft,none⟩::os) (p::ps) K:=
  lM _ _ (fun y=>rfl) hc (fun y=>rfl) hp (fun y A hA=>dm (h y A hA) ⟨rfl,rfl⟩) hf hl r
def nE(h:∀y A,(∀j∈p.gC,dI c i j y)→Step C l.toArray o (lI l E0 p i c y) (e9 (iR ts i) y++(e9 (fo ts i) y++A)) (fun v' L'=>v'=f y∧L'.Perm (e9 (im ts i) y++(e9 (fo ts i) y++A))))(r:iD C l E0 ts A0 (i+1) (c.put f (fun _=>True)) os ps K)
    (hf:∀y v,f (ek y i v)=f y:=by intros;rfl) (hM:∀y v,e9 (im ts i) (ek y i v)=e9 (im ts i) y:=by intros;rfl) (hl:Loc i p f:=by intro y y2 h;rfl):iD C l E0 ts A0 i c (o::os) (p::ps) K:=
  O2 _ _ _ _ (fun y=>rfl) (fun y=>rfl) (fun y=>rfl) (fun y=>rfl) h hf hM hl r
end
def aco (m:Nat):List Nat:=(List.range 96).filter fun k=>(m/2^k)%2==1
end Go.Sl
namespace Go.Sl
def ln{E:Env}:Le [] E:=.nil _
def iw{E E2:Env}{d0:Nat}{v0:Value}(l:Le E2 E)(h0:E.get d0=some v0:=by rfl):Le ((d0,v0)::E2) E:=.cons h0 l
def fF{E E2:Env}{d0:Nat}{v0:Value}{d1:Nat}{v1:Value}(l:Le E2 E)(h0:E.get d0=some v0:=by rfl)(h1:E.get d1=some v1:=by rfl):Le ((d0,v0)::(d1,v1)::E2) E:=.cons h0 (.cons h1 l)
def eo{E E2:Env}{d0:Nat}{v0:Value}{d1:Nat}{v1:Value}{d2:Nat}{v2:Value}(l:Le E2 E)(h0:E.get d0=some v0:=by rfl)(h1:E.get d1=some v1:=by rfl)(h2:E.get d2=some v2:=by rfl):Le ((d0,v0)::(d1,v1)::(d2,v2)::E2) E:=.cons h0 (.cons h1 (.cons h2 l))
def cK{E E2:Env}{d0:Nat}{v0:Value}{d1:Nat}{v1:Value}{d2:Nat}{v2:Value}{d3:Nat}{v3:Value}(l:Le E2 E)(h0:E.get d0=some v0:=by rfl)(h1:E.get d1=some v1:=by rfl)(h2:E.get d2=some v2:=by rfl)(h3:E.get d3=some v3:=by rfl):Le ((d0,v0)::(d1,v1)::(d2,v2)::(d3,v3)::E2) E:=.cons h0 (.cons h1 (.cons h2 (.cons h3 l)))
def bb{E E2:Env}{d0:Nat}{v0:Value}{d1:Nat}{v1:Value}{d2:Nat}{v2:Value}{d3:Nat}{v3:Value}{d4:Nat}{v4:Value}(l:Le E2 E)(h0:E.get d0=some v0:=by rfl)(h1:E.get d1=some v1:=by rfl)(h2:E.get d2=some v2:=by rfl)(h3:E.get d3=some v3:=by rfl)(h4:E.get d4=some v4:=by rfl):Le ((d0,v0)::(d1,v1)::(d2,v2)::(d3,v3)::(d4,v4)::E2) E:=.cons h0 (.cons h1 (.cons h2 (.cons h3 (.cons h4 l))))
def an{A0:ad}{M P F:List ad}(h:fG M P F):fG (A0::M) (A0::P) F:=.cons dJ h
def aJ{A0 A1:ad}{M P F:List ad}(h:fG M P F):fG (A0::A1::M) (A0::A1::P) F:=.cons dJ (.cons dJ h)
def dV{A0 A1 A2:ad}{M P F:List ad}(h:fG M P F):fG (A0::A1::A2::M) (A0::A1::A2::P) F:=.cons dJ (.cons dJ (.cons dJ h))
def jm{A0 A1 A2 A3:ad}{M P F:List ad}(h:fG M P F):fG (A0::A1::A2::A3::M) (A0::A1::A2::A3::P) F:=.cons dJ (.cons dJ (.cons dJ (.cons dJ h)))
def iV{A0 A1 A2 A3 A4:ad}{M P F:List ad}(h:fG M P F):fG (A0::A1::A2::A3::A4::M) (A0::A1::A2::A3::A4::P) F:=.cons dJ (.cons dJ (.cons dJ (.cons dJ (.cons dJ h))))
def wI {n : Int} (h1 : -9223372036854775808 ≤ n := by omega) (h2 : n ≤ 9223372036854775807 := by omega) : IntKind.i64.wrap n = n := gI h1 h2
section
variable {C:Ctx} {Q:QT} {E E0:Env} {L:List ad} {ty:TypeId}
def xI {α : Type} {c : Ec α} {x ix : Operand} {t cJ n cap : Nat} {p : Option Addr} {k : IntKind} {i : Int} {l : List α} (ht : sliceB C.P t = some (c.T, c.sz, cJ)) (H : Has C.w0 L c p n l) (h : au E x = some (.slice p n cap) := by rfl) (hi : au E ix = some (.int k i) := by rfl) (h0 : 0 ≤ i := by omega) (hlt : i < n := by omega) :
    cx C (.indexAddr t x ix) ty E L (.pointer (some ⟨iK p,rS p+i.toNat*c.sz,none⟩)) L:=EB ht h hi H h0 hlt
def xL {α : Type} {c : Ec α} {v : Value} {x : Operand} {t n : Nat} {p : Option Addr} {i : Int} {l : List α} (hs : da C.P t = true) (H : Has C.w0 L c p n l) (hx : au E x = some (.pointer (some ⟨iK p, rS p + i.toNat * c.sz, none⟩)) := by rfl) (h0 : 0 ≤ i := by omega) (hlt : i < n := by omega) (hf : Nat.blt 0 c.sz = true := by rfl) (hv : (c.e (c.g l i))[0]? = some v := by rfl) : cx C (.load t x) ty E L v L := Ue hs hx H h0 hlt hf hv
variable {l:List Oper} {ts:List dR} {i:Nat} {c:iq} {op:Op} {os:List Oper} {ps:List eu} {f:Yv→Value} {K:iq→Prop} {A0:List ad} {p:eu} {d:Option Nat} {pos:String} {aft:Array Edge} {o:Oper} {x:Operand}
def nM(r:iD C l E0 ts A0 (i+1) (c.put f (fun _=>True)) os ps K)(h:∀y,au (lI l E0 p i c y) x=some (f y):=by intro y;rfl)
    (hc:iR ts i=[]:=by rfl) (hr:fo ts i=[]:=by rfl) (hp:im ts i=[]:=by rfl) (hf:∀y v,f (ek y i v)=f y:=by intros;rfl) (hl:Loc i p f:=by intro y y2 h;rfl):iD C l E0 ts A0 i c (⟨d,.move x,ty,pos,aft,none⟩::os) (p::ps) K:=
  nV (fun y hA L=>jh (h y)) r hc hr hp hf hl
def nA(r:iD C l E0 ts A0 (i+1) (c.put f (fun _=>True)) os ps K)(h:∀y,au (lI l E0 p i c y) x=some (f y):=by intro y;rfl)
    (hc:iR ts i=[]:=by rfl) (hr:fo ts i=[]:=by rfl) (hp:im ts i=[]:=by rfl) (hf:∀y v,f (ek y i v)=f y:=by intros;rfl) (hl:Loc i p f:=by intro y y2 h;rfl):iD C l E0 ts A0 i c (⟨d,.assign x,ty,pos,aft,none⟩::os) (p::ps) K:=
  nV (fun y hA L=>jZ (h y)) r hc hr hp hf hl
def nN{q:Yv→Addr}(r:iD C l E0 ts A0 (i+1) (c.put (fun y=>.pointer (some (q y))) (fun _=>True)) os ps K)(h:∀y,au (lI l E0 p i c y) x=some (.pointer (some (q y))):=by intro y;rfl)
    (hc:iR ts i=[]:=by rfl) (hr:fo ts i=[]:=by rfl) (hp:im ts i=[]:=by rfl) (hf:∀y v,Value.pointer (some (q (ek y i v)))=.pointer (some (q y)):=by intros;rfl) (hl:Loc i p (fun y=>Value.pointer (some (q y))):=by intro y y2 h;rfl):iD C l E0 ts A0 i c (⟨d,.nilCheck x,ty,pos,aft,none⟩::os) (p::ps) K:=
  nV (fun y hA L=>F3 (h y)) r hc hr hp hf hl
def nG{s fd o b q:Nat}(ht:bo C.P s fd=some o)(r:iD C l E0 ts A0 (i+1) (c.put (fun y=>.pointer (some ⟨b,q+o,none⟩)) (fun _=>True)) os ps K)(h:∀y,au (lI l E0 p i c y) x=some (.pointer (some ⟨b,q,none⟩)):=by intro y;rfl)
    (hc:iR ts i=[]:=by rfl) (hr:fo ts i=[]:=by rfl) (hp:im ts i=[]:=by rfl):iD C l E0 ts A0 i c (⟨d,.fieldAddr s x fd,ty,pos,aft,none⟩::os) (p::ps) K:=
  nV (fun y hA L=>bP ht (h y)) r hc hr hp (fun _ _=>rfl) (fun _ _ _=>rfl)
def wN{id:Nat}(ps:List eu)(ts:List dR)(A:List ad)(hm:C.P.follows .mixedOrders=true)(how:iD C l E0 ts A 0 ⟨[],[]⟩ l ps (fun c=>∀y,(∀j,j<l.length→dI c l.length j y)→Q .normal (vv l l.length c y l.length E0) (e9 (xC ts) y++A)))
    (hB:Cn C l ps ts=true:=by kernel_rfl) (hps:ps.length=l.length:=by rfl) (h0:∀y,L.Perm (e9 (sG ts) y++A):=by exact fun _=>.refl _) (hl:vg ps ts:=by repeat first|exact fw|refine aU _ ?_|refine dq _ rfl (by intro y y2 h;rfl) ?_) (hX:∀ch E L,C.X ch L→Q (.panic ch) E L:=by exact fun _ _ _ h=>h):Wp C (.region id l.toArray true) Q E0 L:=
  jE ps ts A hm hB hps h0 hl how hX
end
section
variable {C:Ctx} {Q:QT} {E:Env} {L L':List ad} {ops:Array Oper} {rest:List Oper} {d:Nat} {ty:TypeId} {pos:String} {aft:Array Edge} {op:Op} {v:Value}
def oV(h:cx C op ty E L v L')(k:dr C ops rest Q ((d,v)::E) L')(hd:Nat.blt d C.n=true:=by rfl):dr C ops (⟨some d,op,ty,pos,aft,none⟩::rest) Q E L:=vY h hd k
def oR(h:cx C op ty E L v L)(k:fM C ops rest Q ((d,v)::E) L)(hd:Nat.blt d C.n=true:=by rfl)(hk:Oh op v=true:=by rfl):fM C ops (⟨some d,op,ty,pos,aft,none⟩::rest) Q E L:=Rg.vY h hd hk k
end
abbrev pz (m:Nat) (d s:List Nat):eu:=⟨aco m,d,s,0,0⟩
section
variable {C:Ctx} {Q:QT} {E:Env} {L:List ad} {ops:Array Oper} {rest:List Oper} {d:Nat} {ty:TypeId} {pos:String} {aft:Array Edge}
abbrev I6 (x:Int):Value:=.int .i64 x
def oC{f:FuncId}{args:List Operand}{tys:Array TypeId}{vs:List Value}{Pre F G:List ad}{v:Value}(hS:aA C.P f vs Pre (aF fun u H=>u=v∧H=G))(hb:az C.P f=true)(hE:iG E args=some vs)(hL:fG L Pre F)(hd:Nat.blt d C.n=true)
    (k:dr C ops rest Q ((d,v)::E) (G++F)):dr C ops (⟨some d,.call ⟨.value (.func f),args.toArray,tys⟩,ty,pos,aft,none⟩::rest) Q E L:=
  aQ hS hb hE hL hd (by rintro _ _ ⟨rfl,rfl⟩;exact k)
def rV{rs:Array ResultVar}{F G:List ad}{v:Value}(hr:k8 C rs E L v)(hs:Sub L (G++F)):oQ C rs F (aF fun u H=>u=v∧H=G) .ret E L:=af hr ⟨rfl,rfl⟩ hs
def eV{rs:Array ResultVar}{F G:List ad}{v:Value}(hr:k8 C rs E L v)(hs:Sub L (G++F)):oQ C rs F (aF fun u H=>u=v∧H=G) .normal E L:=ik hr ⟨rfl,rfl⟩ hs
end
def aeJ:True:=by
  have:=@N2
  have:=@nV
  have:=@nR
  have:=@nE
  have:=@ln
  have:=@iw
  have:=@fF
  have:=@eo
  have:=@cK
  have:=@bb
  have:=@an
  have:=@aJ
  have:=@dV
  have:=@jm
  have:=@iV
  have:=@wI
  have:=@xI
  have:=@xL
  have:=@nM
  have:=@nA
  have:=@nN
  have:=@nG
  have:=@wN
  have:=@oV
  have:=@oR
  have:=@oC
  have:=@rV
  have:=@eV
  trivial
end Go.Sl
namespace Go.Sl
section
variable {α β:Type}
def Bj (c:Ec α) (p:Option Addr) (n:Nat) (l:List α):ad:=fun w0 h=>l.length=n∧(n=0∨∃b o cs T fr,p=some ⟨b,o,none⟩∧h b=some (.cells cs T fr)∧∀(i:Nat) v,(l.flatMap c.e)[i]?=some v→cs[o+i]?=some v)
def Bj.rd{c:Ec α}{p:Option Addr}{n:Nat}{l:List α}{w0:World}{h:Hp}(hh:Bj c p n l w0 h):aE c p n l w0 h:=by
  obtain⟨h1,h2⟩:=hh
  refine⟨h1,by rw[gA,h1],?_⟩
  rcases h2 with h2|⟨b,o,cs,T,fr,e1,e2,e3⟩
  · exact .inl h2
  · refine .inr ⟨b,o,e1,fun i v hv=>?_⟩
    unfold qQ
    rw[e2]
    simpa using e3 i v hv
def Bj.mono{c:Ec α}{p:Option Addr}{n:Nat}{l:List α}{w0:World}{h h':Hp}(hh:Bj c p n l w0 h)(hl:Hp.le h h'):Bj c p n l w0 h':=by
  obtain⟨h1,h2⟩:=hh
  refine⟨h1,?_⟩
  rcases h2 with h2|⟨b,o,cs,T,fr,e1,e2,e3⟩
  · exact .inl h2
  · exact .inr ⟨b,o,cs,T,fr,e1,hl _ _ e2,e3⟩
def Row.Wj{c:Ec α}{p:Option Addr}{n cap:Nat}{l:List α}{w0:World}{h:Hp}(hr:Row c p n cap l w0 h):Bj c p n l w0 h:=by
  obtain⟨h1,h2⟩:=hr
  refine⟨h1,?_⟩
  rcases h2 with⟨rfl,rfl,rfl,_⟩|⟨b,o,pre,post,rfl,⟨_,e1⟩,e2,e3,_,_⟩
  · exact .inl rfl
  · refine .inr ⟨b,o,_,_,_,rfl,e1,fun i v hv=>?_⟩
    have hlt:=(List.getElem?_eq_some_iff.1 hv).1
    rw[List.getElem?_toArray,List.append_assoc,List.getElem?_append_right omg,show o+i-pre.length=i by omega,List.getElem?_append_left hlt]
    exact hv
def H0 (c:Ec α) (f:β→Option Addr×List α) (l:List β):ad:=fun w0 h=>∀x∈l,Bj c (f x).1 (f x).2.length (f x).2 w0 h
def DO(c:Ec α)(f:β→Option Addr×List α)(w0:World)(h:Hp):H0 c f [] w0 h:=fun x hx=>by cases hx
def Ds{c:Ec α}{f:β→Option Addr×List α}{l:List β}{x:β}{p:Option Addr}{n cap:Nat}{d:List α}{w0:World}{h:Hp}(hx:f x=(p,d))(hh:cY w0 [H0 c f l,Row c p n cap d] h):H0 c f (l++[x]) w0 h:=by
  obtain⟨h1,h2,_,l1,l2,a,h3,h4,_,l3,l4,b,_⟩:=hh
  intro y hy
  rcases List.mem_append.1 hy with hy|hy
  · exact(a y hy).mono l1
  · rw[List.mem_singleton.1 hy,hx]
    have hb:d.length=n:=b.1
    have:=(Row.Wj b).mono (Hp.le_trans l3 l2)
    rw[←hb] at this
    exact this
def Vs{w0:World}{L:List ad}{c:Ec α}{f:β→Option Addr×List α}{l:List β}{x:β}(hm:H0 c f l∈L)(hx:x∈l):Has w0 L c (f x).1 (f x).2.length (f x).2:=⟨_,hm,fun h hh=>(hh x hx).rd⟩
end
end Go.Sl
namespace Go.Sl
section
variable {C:Ctx} {Q:QT} {E:Env} {L F:List ad} {ops:Array Oper} {rest:List Oper} {d:Nat} {ty:TypeId} {pos:String} {aft:Array Edge}
def RO{x y:Operand}{dt st elem cJ b o dn dc sn sc T n:Nat}{p2:Option Addr}{vs ws pre post:List Value}{R:ad}
    (ht:sliceB C.P dt=some (elem,1,cJ)) (hd:au E x=some (.slice (some ⟨b,o,none⟩) dn dc)) (hs:au E y=some (.slice p2 sn sc))
    (hL:ij L (ai b T (pre++vs++post)) F) (hm:R∈F) (hR:∀h,R C.w0 h→Rd p2 n 1 ws C.w0 h) (ho:pre.length=o) (hn:n=min sn dn) (hv:vs.length=n) (h1:ws.all Value.oneCell'=true):
    lk C (.call ⟨.builtin .copy,[x,y].toArray, #[dt,st]⟩) ty E L (fun v L'=>v=.int .i64 n∧L'=ai b T (pre++ws++post)::F):=by
  intro d pos aft g a w K Qx ha hi hK
  obtain⟨ht1,i,hi2,hsz,_⟩:=j8 ht
  have hi1:=hi.perm hL.perm
  obtain⟨hwl,hwc⟩:=hi1.tail.rd hm hR
  obtain⟨consts,hrun⟩:=kp (C:=C) (ty:=ty) (pos:=pos) (aft:=aft) (b:=.copy) (xs:=[x,y]) (tys:= #[dt,st]) (vs:=[.slice (some ⟨b,o,none⟩) dn dc,.slice p2 sn sc]) (a:=a) (by simp[ha.eval hd,ha.eval hs]) d g w
  suffices h:∃w',(Builtin.copy_ #[dt,st] ty #[.slice (some ⟨b,o,none⟩) dn dc,.slice p2 sn sc]).run C.P w=.ok (.int .i64 n) w'∧Inv C.w0 (ai b T (pre++ws++post)::F) w' by
    obtain⟨w',hr,hi'⟩:=h
    unfold Oper.wp
    rw[hrun]
    simp only[builtin,Sem.run_bind,hr,Result.andThen_ok,Sem.run_pure]
    exact hK _ _ _ ⟨rfl,rfl⟩ hi'
  have hfirst:(Builtin.firstCells 1 n (.slice p2 sn sc)).run C.P w=.ok ws.toArray w:=by
    by_cases hm0:n=0
    · subst hm0
      have hw0:ws=[]:=List.length_eq_zero_iff.1 omg
      subst hw0
      cases p2<;>simp[Builtin.firstCells,loadCells,loadCellsFrom]
    · rcases hwc with hwc|⟨b2,o2,rfl,hc⟩
      · exact absurd hwc hm0
      · exact run_firstCells_some (P:=C.P) w 1 n _ sn sc ws hwl (fun j v hj=>by rw[Addr.gl];exact hc j v hj)
  have hall:∀u∈ws,u.oneCell'=true:=fun u hu=>by simpa using List.all_eq_true.1 h1 u hu
  have hwn:ws.length=n:=omg
  have hfit:o+ws.length≤(pre++vs++post).length:=by simp only[List.length_append];omega
  obtain⟨w',hr,hi'⟩:=jO (C:=C) ws o 0 _ _ w hall (by simpa using hfit) hi1
  refine⟨w',?_,?_⟩
  · have hmin:Nat.min sn dn=n:=by rw[hn]
    simp[Builtin.copy_,run_underlying ht1,sizeOf,typeInfo,hi2,hsz,Builtin.lenOf,hmin,hfirst,hr,goInt]
  · have e5:(pre++vs++post).take (o+0)=pre:=by
      rw[Nat.add_zero,List.append_assoc]
      exact List.take_left' ho
    have e6:(pre++vs++post).drop (o+0+ws.length)=post:=by
      rw[Nat.add_zero,show o+ws.length=(pre++vs).length by simp;omega,List.drop_left]
    rw[e5,e6] at hi'
    exact hi'
def WY{α:Type}{c:Ec α}{x y:Operand}{dt st cJ dn dc sn sc n cap k m cnt:Nat}{p p2:Option Addr}{l ws:List α}
    (hsz:c.sz=1) (ht:sliceB C.P dt=some (c.T,c.sz,cJ)) (hd:au E x=some (.slice (cM p k m 1) dn dc)) (hs:au E y=some (.slice p2 sn sc)) (hL:ij L (Row c p n cap l) F) (H:Has C.w0 F c p2 cnt ws) (hc:cnt=min sn dn) (hk:k+cnt≤n) (hkm:k<m) (h0:0<n):
    lk C (.call ⟨.builtin .copy,[x,y].toArray, #[dt,st]⟩) ty E L (fun v L'=>v=.int .i64 cnt∧L'=Row c p n cap (l.take k++ws++l.drop (k+cnt))::F):=by
  intro d pos aft g a w K Qx ha hi hK
  have hi1:=hi.perm hL.perm
  have hlen:l.length=n:=((own (w0:=C.w0) (L:=Row c p n cap l::F) ay).fact hi1).1
  obtain⟨R,hm,hR⟩:=H
  have hwl:ws.length=cnt:=(Has.fact ⟨R,hm,hR⟩ hi1.tail).1
  obtain⟨zz,hzz,hi2⟩:=Inv.zr (Sl.open_ C.w0) (hi1.imp (fun h hh=>hh.2))
  cases zz with
  |none=>obtain⟨_,h1,_⟩:=hzz;omega
  |some zz=>
    obtain⟨b,o,pre,post⟩:=zz
    obtain⟨rfl,e1,e2,e3,e4⟩:=hzz
    have hfl:=gA c l
    rw[hsz] at hfl e2 e3
    have hsp:cM (some ⟨b,o,none⟩) k m 1=some ⟨b,o+k,none⟩:=by
      unfold cM
      rw[if_neg omg]
      simp[Addr.gl]
    have hcells:l.flatMap c.e=(l.take k).flatMap c.e++((l.drop k).take cnt).flatMap c.e++(l.drop (k+cnt)).flatMap c.e:=by
      rw[←List.flatMap_append,←List.flatMap_append]
      congr 1
      rw[List.append_assoc,←List.drop_drop,List.take_append_drop,List.take_append_drop]
    have hi3:Inv C.w0 (ai b c.T ((pre++(l.take k).flatMap c.e)++((l.drop k).take cnt).flatMap c.e++((l.drop (k+cnt)).flatMap c.e++post))::F) w:=by
      have:=hi2
      rw[hcells] at this
      simpa[List.append_assoc] using this
    have l1:((l.take k).flatMap c.e).length=k:=by rw[gA,hsz,List.length_take];omega
    have l2:(((l.drop k).take cnt).flatMap c.e).length=cnt:=by rw[gA,hsz,List.length_take,List.length_drop];omega
    refine RO (C:=C) (E:=E) (ty:=ty) (st:=st) (o:=o+k) (vs:=((l.drop k).take cnt).flatMap c.e) (ws:=ws.flatMap c.e) (n:=cnt) (R:=R) (by rw[←hsz];exact ht) (by rw[hd,hsp]) hs ij.head hm (fun h hh=>by have:=(hR h hh).2;rwa [hsz] at this) (by simp only[List.length_append];omega) hc l2 (re c ws) d pos aft g a w K Qx ha hi3 ?_
    rintro v L' w' ⟨e5,e6⟩ hi'
    subst e6
    refine hK v _ w' ⟨e5,rfl⟩ ?_
    refine Inv.cls (B:=[ai b c.T (pre++(l.take k++ws++l.drop (k+cnt)).flatMap c.e++post)]) (fun h hc2=>⟨by simp only[List.length_append,List.length_take,List.length_drop];omega,Sl.mk hc2 e1 (by rw[gA,hsz];simp only[List.length_append,List.length_take,List.length_drop];omega) (by rw[hsz];exact e3) e4⟩) ?_
    simpa[List.flatMap_append,List.append_assoc] using hi'
def vm(T:TypeId)(k:IntKind):∀l:List Int,l.flatMap (aK T k).e=l.map (Value.int k)
  |[]=>rfl
  |a::l=>by
    have ih:=vm T k l
    simp only[List.flatMap_cons,List.map_cons,ih]
    rfl
def caH{w0:World}{b T T':Nat}{k:IntKind}{xs:List Int}(hm:ai b T (CA [] k xs [])∈L):Has w0 L (aK T' k) (soz b) xs.length xs:=by
  refine⟨_,hm,fun h hh=>⟨rfl,by rw[gA],.inr ⟨b,0,rfl,fun i v hv=>?_⟩⟩⟩
  obtain⟨_,hb⟩:∃e,h b=some (.cells (CA [] k xs []).toArray T (Mk e _)):=hh
  unfold qQ
  rw[hb]
  rw[vm] at hv
  simpa[CA,ints] using hv
end
end Go.Sl
namespace Go.Sl
section
variable {C:Ctx} {Q:QT} {E:Env} {L F:List ad} {ops:Array Oper} {rest:List Oper} {d:Nat} {ty:TypeId} {pos:String} {aft:Array Edge}
def LS{x:Operand}{src dst T:TypeId}{l:List Int}(hs:C.P.underlying src=some .string)(hd:C.P.underlying dst=some (.slice T))(he:C.P.underlying T=some (.int .u8))(hx:au E x=some (.string (strOfNums l)))(hl:∀x∈l,0≤x∧x<256):
    lk C (.convert src dst x) ty E L (fun v L'=>∃b c,v=.slice (soz b) l.length c∧L'=Row (aK T .u8) (soz b) l.length c l::L):=by
  intro d pos aft g a w K Qx ha hi hK
  have hconv:=Lib.run_convert_string_bytes (P:=C.P) w src dst T (strOfNums l) hs hd he
  have hr:(execOp a.eval ⟨d,.convert src dst x,ty,pos,aft,g⟩).run C.P w=.ok (.value (.slice (some ⟨w.heap.size,0,none⟩) (strOfNums l).size (grownCap w (strOfNums l).size 0 T))) (Lib.bytesWorld w T (strOfNums l)):=by
    simp only[execOp,ha.eval hx,Sem.run_bind,hconv,Result.andThen_ok,Sem.run_pure]
  unfold Oper.wp
  rw[hr]
  refine hK _ _ _ ⟨w.heap.size,grownCap w (strOfNums l).size 0 T,by rw[lJ],rfl⟩ ?_
  have e:(Lib.bytesCells w T (strOfNums l)).toList=l.map (Value.int .u8)++List.replicate (grownCap w (strOfNums l).size 0 T-(strOfNums l).size) (.int .u8 0):=by
    unfold Lib.bytesCells
    rw[Array.toList_append,Array.toList_map,Array.toList_replicate,ui l hl]
  have h1:Inv C.w0 (ai w.heap.size T (Lib.bytesCells w T (strOfNums l)).toList::L) (w.drew.alloc (.cells (Lib.bytesCells w T (strOfNums l)).toList.toArray T)):=by
    have:=hi.drew.alloc T (Lib.bytesCells w T (strOfNums l)).toList
    simpa using this
  rw[Array.toArray_toList] at h1
  have hsz:(w.drew.alloc (.cells (Lib.bytesCells w T (strOfNums l)) T)).heap.size=w.heap.size+1:=by simp
  have hp:=h1.write (w':=Lib.bytesWorld w T (strOfNums l)) (cs':=(Lib.bytesCells w T (strOfNums l)).toList) (e':=true) rfl rfl rfl (by rw[Lib.bytesWorld_size,hsz];exact Nat.le_refl _) (by rw[Lib.bytesWorld_at_new w T _];simp[Mk]) (fun k hk hlt=>by
    have hlt2:k<w.heap.size:=omg
    rw[Lib.bytesWorld_at_old w T _ k hlt2]
    show w.heap[k]?=(w.heap.push _)[k]?
    rw[Array.getElem?_push,if_neg omg])
  have hg:=grownCap_ge w (strOfNums l).size 0 T
  rw[lJ] at hg
  refine hp.imp (fun h hh=>⟨rfl,.inr ⟨w.heap.size,0,[],List.replicate (grownCap w (strOfNums l).size 0 T-(strOfNums l).size) (.int .u8 0),rfl,?_,rfl,by rw[gA],by rw[List.length_replicate,lJ];exact Nat.le_of_eq (Nat.mul_one _),by rw[lJ];exact hg⟩⟩)
  rw[List.nil_append,show l.flatMap (aK T .u8).e=l.map (Value.int .u8) from CL l,←e]
  exact hh
def Bg{x:Operand}{src dst T:TypeId}{l:List Int}(hs:C.P.underlying src=some .string)(hd:C.P.underlying dst=some (.slice T))(he:C.P.underlying T=some (.int .u8))(hx:au E x=some (.string (strOfNums l)))(hl:∀x∈l,0≤x∧x<256)(hn:Nat.blt d C.n=true)
    (k:∀b c,dr C ops rest Q ((d,.slice (soz b) l.length c)::E) (Row (aK T .u8) (soz b) l.length c l::L)):dr C ops (⟨some d,.convert src dst x,ty,pos,aft,none⟩::rest) Q E L:=
  qV (LS hs hd he hx hl) hn fun v L' ⟨b,c,e1,e2⟩=>by subst e1;subst e2;exact k b c
def JJ{x:Operand}{src dst T:TypeId}{l:List Int}(hs:C.P.underlying src=some .string)(hd:C.P.underlying dst=some (.slice T))(he:C.P.underlying T=some (.int .u8))(hx:au E x=some (.string (strOfNums l)))(hl:∀x∈l,0≤x∧x<256)(hn:Nat.blt d C.n=true)
    (k:∀b c,dr C ops rest Q ((d,.slice (soz b) l.length c)::E) (aE (aK T .u8) (soz b) l.length l::L)):dr C ops (⟨some d,.convert src dst x,ty,pos,aft,none⟩::rest) Q E L:=
  Bg hs hd he hx hl hn fun b c=>XT .head (fun h hh=>⟨hh.1,hh.2.rd⟩) (k b c)
def Ar{x:Operand}{t:TypeId}{k:IntKind}{n r:Int}(hk:k.signed=false)(h:au E x=some (.int k n))(e:k.wrap ((BitVec.ofInt k.bits k.max^^^BitVec.ofInt k.bits n).toNat:Int)=r):cx C (.unOp .xor t x) ty E L (.int k r) L:=dM fun d pos aft g a w ha=>by
  rw[←e]
  simp[execOp,ha.eval h,Op.unary,Op.intBits,hk]
def DH{x y:Operand}{t:TypeId}{l:List Int}{k:IntKind}{i:Int}(n:Nat)(ht:C.P.underlying t=some .string)(hx:au E x=some (.string (strOfNums l)))(hy:au E y=some (.int k i))(hl:∀x∈l,0≤x∧x<256)(hi:i=(n:Int))(hn:n<l.length):cx C (.index t x y) ty E L (.int .u8 (l.getD n 0)) L:=dM fun d pos aft g a w ha=>by
  subst hi
  have hs:(strOfNums l)[n]?=some (UInt8.ofNat (l.getD n 0).toNat):=by
    have h1:n<(strOfNums l).size:=by rw[lJ];exact hn
    rw[getElem?_pos (strOfNums l) n h1]
    congr 1
    simp[strOfNums,ByteArray.getElem_eq_getElem_data,hn]
  have hb:(((UInt8.ofNat (l.getD n 0).toNat).toNat:Nat):Int)=l.getD n 0:=by
    have hm:=hl (l.getD n 0) (by rw[List.getD_eq_getElem?_getD,List.getElem?_eq_getElem hn];exact List.getElem_mem hn)
    rw[UInt8.toNat_ofNat',Nat.mod_eq_of_lt omg]
    omega
  simp[execOp,ha.eval hx,ha.eval hy,Instr.index,asIntOf,run_underlying ht,hs]
  simpa using hb
end
end Go.Sl
namespace Go.Sl
section
variable {C:Ctx} {E:Env} {L:List ad} {ty:TypeId} {α:Type}
def P5{x y:Operand}{t n:Nat}{k:IntKind}{cs:Array Value}{iv:Int}{v:Value}(c:Ec α)(l:List α)(i:Nat)(ht:jP C.P t=some (n,c.T,c.sz))(ha:gR C.P c.T=some c.sz)(hx:au E x=some (.agg cs))(hc:cs.toList=l.flatMap c.e)(hy:au E y=some (.int k iv))(hi:iv=(i:Int))(hn:i<n)(hl:i<l.length)(hv:.agg (c.e (c.g l (i:Int))).toArray=v):cx C (.index t x y) ty E L v L:=
  dM fun d pos aft g a w ha'=>by
    subst hv;subst hi
    obtain⟨h1,i',h2,h3⟩:=rz ht
    obtain⟨g1,g2⟩:=mS ha w
    have hlt:(i:Int)<(n:Int):=omg
    have e:cs.extract (i*c.sz) (i*c.sz+c.sz)=(c.e (c.g l (i:Int))).toArray:=by
      apply Array.ext'
      rw[Array.toList_extract,hc]
      have:=RL c l i hl
      rw[c.zM hl]
      simpa[List.extract,Nat.add_sub_cancel_left] using this
    simp[execOp,ha'.eval hx,ha'.eval hy,Instr.index,asIntOf,run_underlying h1,run_sizeOf h2,h3,hlt,hn,part,g1,e]
end
end Go.Sl
namespace Go.Sl
section
variable {C:Ctx} {Q:QT} {E:Env} {L F G:List ad} {ops:Array Oper} {rest:List Oper} {ty:TypeId} {pos:String} {aft:Array Edge}
def y9{x:Operand}{t n e sz b o:Nat}(ht:jP C.P t=some (n,e,sz))(hx:au E x=some (.pointer (some ⟨b,o,none⟩))):cx C (.slice t x none none none) ty E L (.slice (some ⟨b,o,none⟩) n n) L:=
  dM fun d pos aft g a w ha=>by
    obtain⟨e1,i,e2,e3⟩:=rz ht
    simp[execOp,ha.eval hx,Instr.sliceAt,run_underlying e1,Instr.sureAddr,Instr.sliceBounds,run_sizeOf e2,e3,Addr.gl]
def LH{d:Option Nat}{op:Op}{u:Value}{M:List ad}(h:lk C op ty E L (fun v L'=>v=u∧L'=M))(hp:M.Perm G):Step C ops ⟨d,op,ty,pos,aft,none⟩ E L (fun v L'=>v=u∧L'.Perm G):=
  yf fun d pos aft g a w K Q ha hi hK=>h d pos aft g a w K Q ha hi fun v L' w' ⟨e1,e2⟩ hi'=>hK v L' w' ⟨e1,e2▸hp⟩ hi'
def eb{α:Type}{c:Ec α}{w0 w:World}{p:Option Addr}{n cap:Nat}{l:List α}(hi:Inv w0 L w)(hm:Row c p n cap l∈L):n≤cap:=by
  obtain⟨F,hF⟩:=hi.mem hm
  have h2:=hF.imp (fun h hh=>hh.2)
  exact(KB h2 (List.mem_cons_self ..)).2.1
end
end Go.Sl
namespace Go.Sl
section
variable {C:Ctx} {ops:Array Oper} {E:Env} {L F:List ad} {d:Option Nat} {ty:TypeId} {pos:String} {aft:Array Edge}
def ve{α:Type}(g:α→Value)(pr:Value→α)(A:α→List ad){f:FuncId}{args:List Operand}{tys:Array TypeId}{vs:List Value}{Pre:List ad}(hS:aA C.P f vs Pre (aF fun v G=>∃a,v=g a∧G=A a))(hp:∀a,pr (g a)=a)(hb:az C.P f=true)(hE:iG E args=some vs)(hL:fG L Pre F):
    Step C ops ⟨d,.call ⟨.value (.func f),args.toArray,tys⟩,ty,pos,aft,none⟩ E L (fun v L'=>v=g (pr v)∧True∧L'.Perm (A (pr v)++F)):=
  tK hS hb hE hL fun v G ⟨a,e1,e2⟩=>by subst e1;subst e2;rw[hp];exact⟨rfl,trivial,.refl _⟩
def fV:Value→Option Addr×Nat|.tuple ⟨[.slice p _ c,_]⟩=>(p,c)|_=>(none,0)
def zu:Value→Nat|.tuple ⟨[.agg ⟨[_,_,.slice (some a) _ _]⟩,_]⟩=>a.block|_=>0
def FP{T:TypeId}{s x:Operand}{t tS cJ n cap:Nat}{p:Option Addr}{l l2:List Int}{zs:List Value}
    (ht:sliceB C.P t=some (T,1,cJ)) (hS:C.P.underlying tS=some .string) (hz:cW C.P T=some zs) (hby:Nat.ble 1 cJ=true)
    (hs:au E s=some (.slice p n cap)) (hx:au E x=some (.string (strOfNums l2))) (hl2:∀x∈l2,0≤x∧x<256) (hL:ij L (Row (aK T .u8) p n cap l) F) (hb:(n+l2.length)*cJ≤140737488355328):
    lk C (.call ⟨.builtin .append,[s,x].toArray, #[t,tS]⟩) ty E L (fun v L'=>∃p' cap',v=.slice p' (n+l2.length) cap'∧L'=Row (aK T .u8) p' (n+l2.length) cap' (l++l2)::F):=fun d pos aft g a w K Qx ha hi hK=>by
  have hl1:l.length=n:=((own (w0:=C.w0) (L:=Row (aK T .u8) p n cap l::F) ay).fact (hi.perm hL.perm)).1
  have hi2:Inv C.w0 (Sl p n cap T 1 (l.flatMap (aK T .u8).e)::F) w:=(hi.perm hL.perm).imp (fun h hh=>hh.2)
  refine Ie (C:=C) (E:=E) (ty:=ty) (vs:=l.flatMap (aK T .u8).e) (ws:=l2.map (Value.int .u8)) ht hS hz rfl hby hs hx (ui l2 hl2) (lJ l2) ij.head hb d pos aft g a w K Qx ha hi2 ?_
  rintro v L' w' ⟨p',cap',e1,e2⟩ hi'
  subst e2
  exact hK v _ w' ⟨p',cap',e1,rfl⟩ (hi'.imp (fun h hh=>⟨by simp[hl1],by rw[List.flatMap_append,show l2.flatMap (aK T .u8).e=l2.map (Value.int .u8) from CL l2];exact hh⟩))
end
end Go.Sl
namespace Go.Sl
def num:Nat→List Value→List (Nat×Value)
  |_,[]=>[]
  |i,v::vs=>(i,v)::num (i+1) vs
def AE(k:IntKind):∀(l:List Int) (i:Nat) (cs:List Value),i+l.length≤cs.length→Instr.fill (fun i=>some (i*1,1)) cs.toArray (num i (l.map (Value.int k)))=some (cs.take i++l.map (Value.int k)++cs.drop (i+l.length)).toArray
  |[],i,cs,h=>by simp[num,Instr.fill]
  |x::l,i,cs,h=>by
    simp only[List.length_cons] at h
    have hi:i<cs.length:=omg
    have e:(cs.set i (.int k x)).take (i+1)=cs.take i++[.int k x]:=by
      rw[List.take_add_one,List.take_set_of_le (Nat.le_refl _)]
      simp[hi]
    have e2:(cs.set i (.int k x)).drop (i+1+l.length)=cs.drop (i+(l.length+1)):=by
      rw[List.drop_set_of_lt omg];congr 1;omega
    have ih:=AE k l (i+1) (cs.set i (.int k x)) (by rw[List.length_set];omega)
    rw[e,e2] at ih
    have hst:∀r,Instr.fill (fun i=>some (i*1,1)) cs.toArray ((i,.int k x)::r)=Instr.fill (fun i=>some (i*1,1)) (cs.set i (.int k x)).toArray r:=fun r=>by
      rw[Instr.fill]
      simp[Value.cells]
      omega
    rw[List.map_cons,num,hst,ih]
    simp
section
variable {C:Ctx} {Q:QT} {E:Env} {L:List ad} {ops:Array Oper} {rest:List Oper} {d:Nat} {ty:TypeId} {pos:String} {aft:Array Edge}
def KW{T:TypeId}{k:IntKind}{t cJ len:Nat}{parts:List (Nat×Operand)}{z:Value}(l:List Int)(ht:sliceB C.P t=some (T,1,cJ))(hz:cW C.P T=some [z])(hsm:Nat.ble len 16777216=true)
    (hp:rP E parts=some (num 0 (l.map (Value.int k)))) (hl:l.length=len) (hd:Nat.blt d C.n=true)
    (kk:∀b,dr C ops rest Q ((d,.slice (soz b) len len)::E) (Row (aK T k) (soz b) len len l::L)):dr C ops (⟨some d,.buildSlice t len parts.toArray,ty,pos,aft,none⟩::rest) Q E L:=by
  refine cg (aK T k) l ht hz rfl (by rw[show len*(aK T k).sz=len from Nat.mul_one _];exact hsm) hp ?_ hl hd kk
  have hn:((List.replicate len [z]).flatten).length=len:=by simp
  have:=AE k l 0 ((List.replicate len [z]).flatten) (by rw[hn];omega)
  rw[Nat.zero_add,List.drop_eq_nil_of_le (by rw[hn];omega),List.take_zero,List.nil_append,List.append_nil] at this
  rw[show l.flatMap (aK T k).e=l.map (Value.int k) from vm T k l]
  exact this
end
end Go.Sl
namespace Go.dj
variable {α:Type}
structure Rl (key:α→Int) (d:α) (l l':List α) (a b:Nat):Prop where
 len:l'.length=l.length
 out:∀i,i<a∨b≤i→l'.getD i d=l.getD i d
 mem:∀i,a≤i→i<b→∃j,a≤j∧j<b∧l'.getD i d=l.getD j d
 same:∀c,l'.filter (fun x=>decide (key x=c))=l.filter (fun x=>decide (key x=c))
def Sd (key:α→Int) (d:α) (l:List α) (a b:Nat):Prop:=∀i j,a≤i→i≤j→j<b→key (l.getD i d)≤key (l.getD j d)
variable {key:α→Int} {d:α}
def Rl.refl(l:List α)(a b:Nat):Rl key d l l a b:=⟨rfl,fun _ _=>rfl,fun i h1 h2=>⟨i,h1,h2,rfl⟩,fun _=>rfl⟩
def Rl.trans{l1 l2 l3:List α}{a b:Nat}(h:Rl key d l1 l2 a b)(k:Rl key d l2 l3 a b):Rl key d l1 l3 a b:=
 ⟨k.len.trans h.len,fun i hi=>(k.out i hi).trans (h.out i hi),fun i h1 h2=>by
  obtain⟨j,j1,j2,j3⟩:=k.mem i h1 h2
  obtain⟨m,m1,m2,m3⟩:=h.mem j j1 j2
  exact⟨m,m1,m2,j3.trans m3⟩,fun c=>(k.same c).trans (h.same c)⟩
def Rl.wide{l l':List α}{a b a' b':Nat}(h:Rl key d l l' a b)(h1:a'≤a)(h2:b≤b'):Rl key d l l' a' b':=
 ⟨h.len,fun i hi=>h.out i omg,fun i i1 i2=>by
  by_cases hi:a≤i∧i<b
  ·obtain⟨j,j1,j2,j3⟩:=h.mem i hi.1 hi.2
   exact⟨j,omg,omg,j3⟩
  ·exact⟨i,i1,i2,h.out i omg⟩,h.same⟩
def Sd.congr{l l':List α}{a b:Nat}(h:Sd key d l a b)(e:∀i,a≤i→i<b→l'.getD i d=l.getD i d):Sd key d l' a b:=fun i j h1 h2 h3=>by
 rw[e i h1 omg,e j omg h3];exact h i j h1 h2 h3
def Sd.small{l:List α}{a b:Nat}(h:b≤a+1):Sd key d l a b:=fun i j h1 h2 h3=>by
 obtain rfl:i=j:=omg
 exact Int.le_refl _
def Sd.sub{l:List α}{a b a' b':Nat}(h:Sd key d l a b)(h1:a≤a')(h2:b'≤b):Sd key d l a' b':=fun i j h3 h4 h5=>h i j omg h4 omg
def Sd.join{l:List α}{a m b:Nat}(h1:Sd key d l a m)(h2:Sd key d l m b)(h:∀i j,a≤i→i<m→m≤j→j<b→key (l.getD i d)≤key (l.getD j d)):Sd key d l a b:=fun i j i1 i2 i3=>by
 by_cases hj:j<m
 ·exact h1 i j i1 i2 hj
 ·by_cases hi:i<m
  ·exact h i j i1 hi omg i3
  ·exact h2 i j omg i2 i3
def Ui(l:List α)(i:Nat)(h:i+1<l.length):l=l.take i++(l.getD i d::l.getD (i+1) d::l.drop (i+2)):=by
 conv=>lhs;rw[←List.take_append_drop i l]
 congr 1
 rw[List.drop_eq_getElem_cons omg,List.drop_eq_getElem_cons h]
 simp[List.getD_eq_getElem?_getD,show i<l.length by omega,h]
def Ig(l:List α)(i:Nat)(h:i+1<l.length):(l.set i (l.getD (i+1) d)).set (i+1) (l.getD i d)=l.take i++(l.getD (i+1) d::l.getD i d::l.drop (i+2)):=by
 apply List.ext_getElem?
 intro j
 have hl:(l.take i).length=i:=by simp;omega
 by_cases h1:j<i
 ·rw[List.getElem?_append_left omg,List.getElem?_set_ne omg,List.getElem?_set_ne omg]
  simp[List.getElem?_take,h1]
 ·rw[List.getElem?_append_right omg,hl]
  by_cases h2:j=i
  ·subst h2
   simp[List.getElem?_set,show j<l.length by omega]
  ·by_cases h3:j=i+1
   ·subst h3
    simp[List.getElem?_set,h]
   ·rw[List.getElem?_set_ne omg,List.getElem?_set_ne omg]
    obtain⟨k,rfl⟩:∃k,j=i+2+k:=⟨j-(i+2),omg⟩
    rw[show i+2+k-i=k+2 by omega]
    simp[List.getElem?_drop]
def swap_comm(l:List α)(i:Nat)(x y:α):(l.set (i+1) x).set i y=(l.set i y).set (i+1) x:=by
 rw[List.set_comm];omega
def Rl.swap{l:List α}{a b i:Nat}(h1:a≤i)(h2:i+1<b)(hl:i+1<l.length)(hk:key (l.getD i d)≠key (l.getD (i+1) d)):Rl key d l ((l.set i (l.getD (i+1) d)).set (i+1) (l.getD i d)) a b:=by
 refine⟨by simp,fun j hj=>?_,fun j j1 j2=>?_,fun c=>?_⟩
 ·simp only[List.getD_eq_getElem?_getD]
  rw[List.getElem?_set_ne omg,List.getElem?_set_ne omg]
 ·by_cases e1:j=i
  ·subst e1
   refine⟨j+1,omg,h2,?_⟩
   simp only[List.getD_eq_getElem?_getD]
   rw[List.getElem?_set_ne omg]
   simp[List.getElem?_set,show j<l.length by omega]
  ·by_cases e2:j=i+1
   ·subst e2
    refine⟨i,h1,omg,?_⟩
    simp only[List.getD_eq_getElem?_getD]
    simp[List.getElem?_set,hl]
   ·refine⟨j,j1,j2,?_⟩
    simp only[List.getD_eq_getElem?_getD]
    rw[List.getElem?_set_ne omg,List.getElem?_set_ne omg]
 ·rw[Ig l i hl]
  conv=>rhs;rw[Ui (d:=d) l i hl]
  simp only[List.filter_append,List.filter_cons]
  congr 1
  generalize l.getD i d=x at hk
  generalize l.getD (i+1) d=y at hk
  by_cases k1:key x=c
  ·have k2:¬key y=c:=fun e=>hk (k1.trans e.symm)
   simp[k1,k2]
  ·simp[k1]
def cI{x y:List α}{i:Nat}(h:i<x.length):(x++y).getD i d=x.getD i d:=by
 simp only[List.getD_eq_getElem?_getD,List.getElem?_append_left h]
def dN{x y:List α}{i:Nat}(h:x.length≤i):(x++y).getD i d=y.getD (i-x.length) d:=by
 simp only[List.getD_eq_getElem?_getD,List.getElem?_append_right h]
def fN{x:List α}{i:Nat}(h:i<x.length):x.getD i d∈x:=by
 simp[List.getD_eq_getElem?_getD,h]
def Rl.rotate{P X Y S:List α}{a b:Nat}(ha:a≤P.length)(hb:P.length+X.length+Y.length≤b)(hk:∀x∈X,∀y∈Y,key x≠key y):Rl key d (P++X++Y++S) (P++Y++X++S) a b:=by
 have hin:∀i,P.length≤i→i<P.length+X.length+Y.length→∃j,P.length≤j∧j<P.length+X.length+Y.length∧(P++Y++X++S).getD i d=(P++X++Y++S).getD j d:=by
  intro i i1 i2
  by_cases h1:i<P.length+Y.length
  ·refine⟨i+X.length,omg,omg,?_⟩
   rw[cI (by simp;omega),cI (by simp;omega),dN i1,cI (by simp;omega),dN (by simp;omega)]
   congr 1
   simp;omega
  ·refine⟨i-Y.length,omg,omg,?_⟩
   rw[cI (by simp;omega),dN (by simp;omega),cI (by simp;omega),cI (by simp;omega),dN omg]
   congr 1
   simp;omega
 have hout:∀i,i<P.length∨P.length+X.length+Y.length≤i→(P++Y++X++S).getD i d=(P++X++Y++S).getD i d:=by
  intro i hi
  rcases hi with hi|hi
  ·rw[cI (by simp;omega),cI (by simp;omega),cI hi,cI (by simp;omega),cI (by simp;omega),cI hi]
  ·rw[dN (by simp;omega),dN (by simp;omega)]
   congr 1
   simp;omega
 refine⟨by simp;omega,fun i hi=>hout i omg,fun i i1 i2=>?_,fun c=>?_⟩
 ·by_cases hi:P.length≤i∧i<P.length+X.length+Y.length
  ·obtain⟨j,j1,j2,j3⟩:=hin i hi.1 hi.2
   exact⟨j,omg,omg,j3⟩
  ·exact⟨i,i1,i2,hout i omg⟩
 ·simp only[List.filter_append]
  have:Y.filter (fun x=>decide (key x=c))++X.filter (fun x=>decide (key x=c))=X.filter (fun x=>decide (key x=c))++Y.filter (fun x=>decide (key x=c)):=by
   by_cases hx:∃x∈X,key x=c
   ·obtain⟨x,x1,x2⟩:=hx
    have:Y.filter (fun x=>decide (key x=c))=[]:=by
     rw[List.filter_eq_nil_iff]
     intro y hy
     simp
     intro e
     exact hk x x1 y hy (x2.trans e.symm)
    rw[this];simp
   ·have:X.filter (fun x=>decide (key x=c))=[]:=by
     rw[List.filter_eq_nil_iff]
     intro y hy
     simp
     intro e
     exact hx ⟨y,hy,e⟩
    rw[this];simp
  rw[List.append_assoc (P.filter _),this]
  simp[List.append_assoc]
def blocks(l:List α)(a m b:Nat)(h1:a≤m)(h2:m≤b)(h3:b≤l.length):∃P X Y S,l=P++X++Y++S∧P.length=a∧X.length=m-a∧Y.length=b-m∧
  (∀x∈X,∃i,a≤i∧i<m∧x=l.getD i d)∧(∀y∈Y,∃i,m≤i∧i<b∧y=l.getD i d):=by
 refine⟨l.take a,(l.drop a).take (m-a),(l.drop m).take (b-m),l.drop b,?_,by simp;omega,by simp;omega,by simp;omega,?_,?_⟩
 ·have e1:l.take a++(l.drop a).take (m-a)=l.take m:=by
   have:=List.take_add (l:=l) (i:=a) (j:=m-a)
   rw[show a+(m-a)=m by omega] at this
   exact this.symm
  have e2:l.take m++(l.drop m).take (b-m)=l.take b:=by
   have:=List.take_add (l:=l) (i:=m) (j:=b-m)
   rw[show m+(b-m)=b by omega] at this
   exact this.symm
  rw[e1,e2,List.take_append_drop]
 ·intro x hx
  obtain⟨i,hi⟩:=List.getElem?_of_mem hx
  have hlt:=(List.getElem?_eq_some_iff.1 hi).1
  simp at hlt
  rw[List.getElem?_take_of_lt omg,List.getElem?_drop] at hi
  exact⟨a+i,omg,omg,by simp[List.getD_eq_getElem?_getD,hi]⟩
 ·intro x hx
  obtain⟨i,hi⟩:=List.getElem?_of_mem hx
  have hlt:=(List.getElem?_eq_some_iff.1 hi).1
  simp at hlt
  rw[List.getElem?_take_of_lt omg,List.getElem?_drop] at hi
  exact⟨m+i,omg,omg,by simp[List.getD_eq_getElem?_getD,hi]⟩
def tJ{P X Y S:List α}{i:Nat}:(P++Y++X++S).getD i d=(P++X++Y++S).getD (if i<P.length then i else if i<P.length+Y.length then i+X.length else if i<P.length+X.length+Y.length then i-Y.length else i) d:=by
 split
 ·rename_i hi
  rw[cI (by simp;omega),cI (by simp;omega),cI hi,cI (by simp;omega),cI (by simp;omega),cI hi]
 ·split
  ·rw[cI (by simp;omega),cI (by simp;omega),dN omg,cI (by simp;omega),dN (by simp;omega)]
   congr 1
   simp;omega
  ·split
   ·rw[cI (by simp;omega),dN (by simp;omega),cI (by simp;omega),cI (by simp;omega),dN omg]
    congr 1
    simp;omega
   ·rw[dN (by simp;omega),dN (by simp;omega)]
    congr 1
    simp;omega
def Ct{P A B C S:List α}{k:Nat}(hA:k<A.length)(hC:C.length=A.length):
  ((P++(C.take k++A.drop k)++B++(A.take k++C.drop k)++S).set (P.length+k) ((P++(C.take k++A.drop k)++B++(A.take k++C.drop k)++S).getD (P.length+A.length+B.length+k) d)).set (P.length+A.length+B.length+k) ((P++(C.take k++A.drop k)++B++(A.take k++C.drop k)++S).getD (P.length+k) d)
   =P++(C.take (k+1)++A.drop (k+1))++B++(A.take (k+1)++C.drop (k+1))++S:=by
 have e1:(P++(C.take k++A.drop k)++B++(A.take k++C.drop k)++S).getD (P.length+A.length+B.length+k) d=C[k]:=by
  rw[cI (by simp;omega),dN (by simp;omega),dN (by simp;omega)]
  simp only[List.getD_eq_getElem?_getD,List.getElem?_drop]
  have:k+(P.length+A.length+B.length+k-(P++(C.take k++A.drop k)++B).length-(A.take k).length)=k:=by simp;omega
  rw[this,List.getElem?_eq_getElem omg];rfl
 have e2:(P++(C.take k++A.drop k)++B++(A.take k++C.drop k)++S).getD (P.length+k) d=A[k]:=by
  rw[cI (by simp;omega),cI (by simp;omega),cI (by simp;omega),dN omg,dN (by simp;omega)]
  simp only[List.getD_eq_getElem?_getD,List.getElem?_drop]
  have:k+(P.length+k-P.length-(C.take k).length)=k:=by simp;omega
  rw[this,List.getElem?_eq_getElem hA];rfl
 rw[e1,e2]
 rw[show A.drop k=A[k]::A.drop (k+1) from List.drop_eq_getElem_cons hA,show C.drop k=C[k]::C.drop (k+1) from List.drop_eq_getElem_cons omg]
 rw[List.take_succ_eq_append_getElem hA,List.take_succ_eq_append_getElem (show k<C.length by omega)]
 have f1:∀(V:List α) (x:α),(P++(C.take k++A[k]::A.drop (k+1))++V).set (P.length+k) x=P++(C.take k++x::A.drop (k+1))++V:=by
  intro V x
  rw[List.set_append_left _ _ (by simp;omega),List.set_append_right _ _ omg,List.set_append_right _ _ (by simp;omega)]
  congr 3
  have:P.length+k-P.length-(C.take k).length=0:=by simp;omega
  rw[this];rfl
 have f2:∀(U:List α) (x:α),U.length=A.length→(P++U++B++(A.take k++C[k]::C.drop (k+1))++S).set (P.length+A.length+B.length+k) x=P++U++B++(A.take k++x::C.drop (k+1))++S:=by
  intro U x hU
  rw[List.set_append_left _ _ (by simp;omega),List.set_append_right _ _ (by simp;omega),List.set_append_right _ _ (by simp;omega)]
  congr 3
  have:P.length+A.length+B.length+k-(P++U++B).length-(A.take k).length=0:=by simp;omega
  rw[this];rfl
 have g:=f1 (B++(A.take k++C[k]::C.drop (k+1))++S) C[k]
 simp only[List.append_assoc] at g f2 ⊢
 rw[g]
 have h:=f2 (C.take k++C[k]::A.drop (k+1)) A[k] (by simp;omega)
 simp only[List.append_assoc] at h
 rw[h]
 simp
def LV{l:List α}{a m b bj s:Nat}(hml:b≤l.length)(ham:a<m)(hmb:m<b)(hmid:bj=(a+b)/2)(h1:Sd key d l a m)(h2:Sd key d l m b)
  (hs0:(if bj<m then bj+m-b else a)≤s) (hs1:s≤(if bj<m then bj else m))
  (hy:(if bj<m then bj+m-b else a)<s→key (l.getD (s-1) d)≤key (l.getD (bj+m-1-(s-1)) d))
  (hn:s<(if bj<m then bj else m)→key (l.getD (bj+m-1-s) d)<key (l.getD s d)):
  a≤s∧s≤bj∧s≤m∧m≤bj+m-s∧bj≤bj+m-s∧bj+m-s≤b∧
  (s<m→m<bj+m-s→∀i j,s≤i→i<m→m≤j→j<bj+m-s→key (l.getD j d)<key (l.getD i d))∧
  (∀i j,a≤i→i<s→bj+m-s≤j→j<b→key (l.getD i d)≤key (l.getD j d)):=by
 refine⟨by split at hs0<;>omega,by split at hs1<;>omega,by split at hs1<;>omega,by split at hs1<;>omega,by split at hs1<;>omega,by split at hs0<;>omega,?_,?_⟩
 ·intro h3 h4 i j i1 i2 j1 j2
  have hlt:s<(if bj<m then bj else m):=by split<;>omega
  have h5:=hn hlt
  have h6:=h1 s i (by split at hs0<;>omega) i1 i2
  have h7:=h2 j (bj+m-1-s) j1 omg (by split at hs0<;>omega)
  omega
 ·intro i j i1 i2 j1 j2
  have hlt:(if bj<m then bj+m-b else a)<s:=by
   rcases Nat.lt_or_ge (if bj<m then bj+m-b else a) s with h|h
   ·exact h
   ·exfalso;split at h<;>omega
  have h5:=hy hlt
  have h6:=h1 i (s-1) i1 omg (by split at hs1<;>omega)
  have h7:=h2 (bj+m-1-(s-1)) j (by split at hs1<;>omega) omg j2
  omega
def unique{l1 l2:List α}(h1:Sd key d l1 0 l1.length)(h2:Sd key d l2 0 l2.length)(h:∀c,l1.filter (fun x=>decide (key x=c))=l2.filter (fun x=>decide (key x=c))):l1=l2:=by
 induction l1 generalizing l2 with
 |nil=>
  cases l2 with
  |nil=>rfl
  |cons y l2=>have:=h (key y);simp at this
 |cons x l1 ih=>
  cases l2 with
  |nil=>have:=h (key x);simp at this
  |cons y l2=>
   have hx:key y≤key x:=by
    have hm:x∈(y::l2):=by
     have hf:x∈(x::l1).filter (fun z=>decide (key z=key x)):=by simp
     rw[h (key x)] at hf
     exact(List.mem_filter.1 hf).1
    obtain⟨j,hj⟩:=List.getElem?_of_mem hm
    have hlt:=(List.getElem?_eq_some_iff.1 hj).1
    have:=h2 0 j (Nat.le_refl _) (Nat.zero_le _) hlt
    simpa[List.getD_eq_getElem?_getD,hj] using this
   have hy:key x≤key y:=by
    have hm:y∈(x::l1):=by
     have hf:y∈(y::l2).filter (fun z=>decide (key z=key y)):=by simp
     rw[←h (key y)] at hf
     exact(List.mem_filter.1 hf).1
    obtain⟨j,hj⟩:=List.getElem?_of_mem hm
    have hlt:=(List.getElem?_eq_some_iff.1 hj).1
    have:=h1 0 j (Nat.le_refl _) (Nat.zero_le _) hlt
    simpa[List.getD_eq_getElem?_getD,hj] using this
   have hk:key x=key y:=omg
   have hxy:x=y:=by
    have:=h (key x)
    simp[hk] at this
    exact this.1
   subst hxy
   congr 1
   refine ih (fun i j i1 i2 i3=>?_) (fun i j i1 i2 i3=>?_) (fun c=>?_)
   ·have:=h1 (i+1) (j+1) omg omg (by simp;omega)
    simpa[List.getD_eq_getElem?_getD] using this
   ·have:=h2 (i+1) (j+1) omg omg (by simp;omega)
    simpa[List.getD_eq_getElem?_getD] using this
   ·have:=h c
    simp only[List.filter_cons] at this
    split at this
    ·simpa using this
    ·exact this
end Go.dj
namespace Go.dj
variable {α:Type} {key:α→Int} {d:α}
def Rl.pd{Pd:α→Prop}{l l':List α}{a b n:Nat}(h:Rl key d l l' a b)(hb:b≤n)(hp:∀i,i<n→Pd (l.getD i d)):∀i,i<n→Pd (l'.getD i d):=fun i hi=>by
 by_cases h1:a≤i∧i<b
 ·obtain⟨j,j1,j2,j3⟩:=h.mem i h1.1 h1.2
  rw[j3];exact hp j omg
 ·rw[h.out i omg];exact hp i hi
def Ins (key:α→Int) (d:α) (l:List α) (a j i:Nat):Prop:=∀x y,a≤x→x≤y→y≤i→y≠j→key (l.getD x d)≤key (l.getD y d)
def Ins.start{l:List α}{a i:Nat}(h:Sd key d l a i):Ins key d l a i i:=fun x y h1 h2 h3 h4=>h x y h1 h2 omg
def lE{l:List α}{j k:Nat}(hj:0<j)(hl:j<l.length):((l.set j (l.getD (j-1) d)).set (j-1) (l.getD j d)).getD k d=if k=j then l.getD (j-1) d else if k=j-1 then l.getD j d else l.getD k d:=by
 by_cases e1:k=j
 ·subst e1
  rw[if_pos rfl]
  simp only[List.getD_eq_getElem?_getD]
  rw[List.getElem?_set_ne omg]
  simp[hl]
 ·rw[if_neg e1]
  by_cases e2:k=j-1
  ·subst e2
   rw[if_pos rfl]
   simp only[List.getD_eq_getElem?_getD]
   simp[show j-1<l.length by omega]
  ·rw[if_neg e2]
   simp only[List.getD_eq_getElem?_getD]
   rw[List.getElem?_set_ne omg,List.getElem?_set_ne omg]
def Ins.step{l:List α}{a j i:Nat}(h:Ins key d l a j i)(h1:a<j)(h2:j≤i)(hl:j<l.length)(hk:key (l.getD j d)<key (l.getD (j-1) d)):Ins key d ((l.set j (l.getD (j-1) d)).set (j-1) (l.getD j d)) a (j-1) i:=fun x y x1 x2 x3 x4=>by
 rw[lE omg hl,lE omg hl,if_neg x4]
 by_cases ey:y=j
 ·rw[if_pos ey]
  by_cases ex:x=j
  ·rw[if_pos ex];exact Int.le_refl _
  ·rw[if_neg ex]
   by_cases ex2:x=j-1
   ·rw[if_pos ex2];omega
   ·rw[if_neg ex2];exact h x (j-1) x1 omg omg omg
 ·rw[if_neg ey]
  by_cases ex:x=j
  ·rw[if_pos ex];exact h (j-1) y omg omg x3 ey
  ·rw[if_neg ex]
   by_cases ex2:x=j-1
   ·rw[if_pos ex2];exact h j y omg omg x3 ey
   ·rw[if_neg ex2];exact h x y x1 x2 x3 ey
def Rl.MB{l:List α}{a b j:Nat}(h1:a<j)(h2:j<b)(hl:j<l.length)(hk:key (l.getD j d)<key (l.getD (j-1) d)):Rl key d l ((l.set j (l.getD (j-1) d)).set (j-1) (l.getD j d)) a b:=by
 obtain⟨i,rfl⟩:∃i,j=i+1:=⟨j-1,omg⟩
 rw[show i+1-1=i by omega] at hk ⊢
 rw[swap_comm]
 exact Rl.swap omg h2 hl omg
def Rl.Yl{l:List α}{a b j:Nat}(h1:a≤j)(h2:j+1<b)(hl:j+1<l.length)(hk:key (l.getD (j+1) d)≠key (l.getD j d)):Rl key d l ((l.set j (l.getD (j+1) d)).set (j+1) (l.getD j d)) a b:=
 Rl.swap h1 h2 hl (fun e=>hk e.symm)
def Ins.fin{l:List α}{a j i:Nat}(h:Ins key d l a j i)(hj:a≤j)(he:j=a∨key (l.getD (j-1) d)≤key (l.getD j d)):Sd key d l a (i+1):=fun x y h1 h2 h3=>by
 by_cases ey:y=j
 ·subst ey
  by_cases ex:x=y
  ·subst ex;exact Int.le_refl _
  ·rcases he with he|he
   ·omega
   ·exact Int.le_trans (h x (y-1) h1 omg omg omg) he
 ·exact h x y h1 h2 omg ey
end Go.dj
namespace Go.dj
variable {α:Type} {key:α→Int} {d:α}
def Xf{l:List α}{m b h:Nat}{k:Int}(hs:Sd key d l m b)(h1:m≤h)(h2:h<b)(hk:key (l.getD h d)<k):∀x,m≤x→x<h+1→key (l.getD x d)<k:=fun x x1 x2=>by
 have:=hs x h x1 omg h2;omega
def Xi{l:List α}{m b h:Nat}{k:Int}(hs:Sd key d l m b)(h1:m≤h)(h2:h<b)(hk:k≤key (l.getD h d)):∀x,h≤x→x<b→k≤key (l.getD x d):=fun x x1 x2=>by
 have:=hs h x h1 x1 x2;omega
def Ya{l:List α}{m b h:Nat}{k:Int}(hs:Sd key d l m b)(h1:m≤h)(h2:h<b)(hk:key (l.getD h d)≤k):∀x,m≤x→x<h+1→key (l.getD x d)≤k:=fun x x1 x2=>by
 have:=hs x h x1 omg h2;omega
def YV{l:List α}{m b h:Nat}{k:Int}(hs:Sd key d l m b)(h1:m≤h)(h2:h<b)(hk:k<key (l.getD h d)):∀x,h≤x→x<b→k<key (l.getD x d):=fun x x1 x2=>by
 have:=hs h x h1 x1 x2;omega
structure Mv (key:α→Int) (d:α) (l l2:List α) (a b k:Nat):Prop where
 rl:Rl key d l l2 a b
 at_:l2.getD k d=l.getD a d
 lo:∀x,a≤x→x<k→l2.getD x d=l.getD (x+1) d
 hi:∀x,k<x→l2.getD x d=l.getD x d
def Mv.start(l:List α)(a b:Nat):Mv key d l l a b a:=⟨Rl.refl _ _ _,rfl,fun x h1 h2=>by omega,fun _ _=>rfl⟩
def tj{l:List α}{j k:Nat}(hl:j+1<l.length):((l.set j (l.getD (j+1) d)).set (j+1) (l.getD j d)).getD k d=if k=j then l.getD (j+1) d else if k=j+1 then l.getD j d else l.getD k d:=by
 have:=lE (d:=d) (l:=l) (j:=j+1) (k:=k) omg hl
 rw[show j+1-1=j by omega] at this
 rw[swap_comm] at this
 rw[this]
 by_cases e1:k=j
 ·rw[if_neg omg,if_pos e1,if_pos e1]
 ·by_cases e2:k=j+1
  ·rw[if_pos e2,if_neg e1,if_pos e2]
  ·rw[if_neg e2,if_neg e1,if_neg e1,if_neg e2]
def Mv.step{l l2:List α}{a b k:Nat}(h:Mv key d l l2 a b k)(h1:a≤k)(h2:k+1<b)(hl:b≤l.length)(hk:key (l.getD (k+1) d)<key (l.getD a d)):Mv key d l ((l2.set k (l2.getD (k+1) d)).set (k+1) (l2.getD k d)) a b (k+1):=by
 have hlen:=h.rl.len
 refine⟨h.rl.trans (Rl.Yl h1 h2 omg (by rw[h.at_,h.hi _ omg];omega)),?_,fun x x1 x2=>?_,fun x x1=>?_⟩
 ·rw[tj omg,if_neg omg,if_pos rfl,h.at_]
 ·rw[tj omg]
  by_cases e:x=k
  ·subst e;rw[if_pos rfl,h.hi _ omg]
  ·rw[if_neg e,if_neg omg,h.lo x x1 omg]
 ·rw[tj omg,if_neg omg,if_neg omg,h.hi x omg]
def Mv.fin{l l2:List α}{a b i:Nat}(h:Mv key d l l2 a b (i-1))(ha:a+1≤i)(hi:i≤b)(hs:Sd key d l (a+1) b)(hlo:∀x,a+1≤x→x<i→key (l.getD x d)<key (l.getD a d))(hhi:∀x,i≤x→x<b→key (l.getD a d)≤key (l.getD x d)):Sd key d l2 a b:=by
 have get:∀x,a≤x→l2.getD x d=if x<i-1 then l.getD (x+1) d else if x=i-1 then l.getD a d else l.getD x d:=by
  intro x hx
  by_cases e1:x<i-1
  ·rw[if_pos e1,h.lo x hx e1]
  ·rw[if_neg e1]
   by_cases e2:x=i-1
   ·rw[if_pos e2,e2,h.at_]
   ·rw[if_neg e2,h.hi x omg]
 intro x y x1 x2 x3
 rw[get x x1,get y omg]
 by_cases e1:x<i-1
 ·rw[if_pos e1]
  by_cases f1:y<i-1
  ·rw[if_pos f1];exact hs _ _ omg omg omg
  ·rw[if_neg f1]
   by_cases f2:y=i-1
   ·rw[if_pos f2];have:=hlo (x+1) omg omg;omega
   ·rw[if_neg f2];exact hs _ _ omg omg omg
 ·rw[if_neg e1]
  by_cases e2:x=i-1
  ·rw[if_pos e2,if_neg omg]
   by_cases f2:y=i-1
   ·rw[if_pos f2];exact Int.le_refl _
   ·rw[if_neg f2];exact hhi y omg x3
  ·rw[if_neg e2,if_neg omg,if_neg omg];exact hs _ _ omg x2 x3
structure Mw (key:α→Int) (d:α) (l l2:List α) (a b m k:Nat):Prop where
 rl:Rl key d l l2 a b
 at_:l2.getD k d=l.getD m d
 hi:∀x,k<x→x≤m→l2.getD x d=l.getD (x-1) d
 lo:∀x,x<k→l2.getD x d=l.getD x d
 up:∀x,m<x→l2.getD x d=l.getD x d
def Mw.start(l:List α)(a b m:Nat):Mw key d l l a b m m:=⟨Rl.refl _ _ _,rfl,fun x h1 h2=>by omega,fun _ _=>rfl,fun _ _=>rfl⟩
def Mw.step{l l2:List α}{a b m k:Nat}(h:Mw key d l l2 a b m k)(h0:a<k)(h1:k≤m)(h2:m<b)(hl:b≤l.length)(hk:key (l.getD m d)<key (l.getD (k-1) d)):Mw key d l ((l2.set k (l2.getD (k-1) d)).set (k-1) (l2.getD k d)) a b m (k-1):=by
 have hlen:=h.rl.len
 refine⟨h.rl.trans (Rl.MB h0 omg omg (by rw[h.at_,h.lo _ omg];exact hk)),?_,fun x x1 x2=>?_,fun x x1=>?_,fun x x1=>?_⟩
 ·rw[lE omg omg,if_neg omg,if_pos rfl,h.at_]
 ·rw[lE omg omg]
  by_cases e:x=k
  ·subst e;rw[if_pos rfl,h.lo _ omg]
  ·rw[if_neg e,if_neg omg,h.hi x omg x2]
 ·rw[lE omg omg,if_neg omg,if_neg omg,h.lo x omg]
 ·rw[lE omg omg,if_neg omg,if_neg omg,h.up x x1]
def Mw.fin{l l2:List α}{a b i:Nat}{m:Nat}(h:Mw key d l l2 a b m i)(ha:a≤i)(hi:i≤m)(hb:b=m+1)(hs:Sd key d l a m)(hlo:∀x,a≤x→x<i→key (l.getD x d)≤key (l.getD m d))(hhi:∀x,i≤x→x<m→key (l.getD m d)<key (l.getD x d)):Sd key d l2 a b:=by
 have get:∀x,x≤m→l2.getD x d=if x<i then l.getD x d else if x=i then l.getD m d else l.getD (x-1) d:=by
  intro x hx
  by_cases e1:x<i
  ·rw[if_pos e1,h.lo x e1]
  ·rw[if_neg e1]
   by_cases e2:x=i
   ·rw[if_pos e2,e2,h.at_]
   ·rw[if_neg e2,h.hi x omg hx]
 intro x y x1 x2 x3
 rw[get x omg,get y omg]
 by_cases e1:x<i
 ·rw[if_pos e1]
  by_cases f1:y<i
  ·rw[if_pos f1];exact hs _ _ x1 x2 omg
  ·rw[if_neg f1]
   by_cases f2:y=i
   ·rw[if_pos f2];exact hlo x x1 e1
   ·rw[if_neg f2];exact hs _ _ x1 omg omg
 ·rw[if_neg e1]
  by_cases e2:x=i
  ·rw[if_pos e2,if_neg (show¬y<i by omega)]
   by_cases f2:y=i
   ·rw[if_pos f2];exact Int.le_refl _
   ·rw[if_neg f2];have:=hhi (y-1) omg omg;omega
  ·rw[if_neg e2,if_neg (show¬y<i by omega),if_neg (show¬y=i by omega)];exact hs _ _ omg omg omg
structure pc (key:α→Int) (d:α) (l l1:List α) (a s bj e b:Nat):Prop where
 rl:Rl key d l l1 a b
 s1:Sd key d l1 a s
 s2:Sd key d l1 s bj
 s3:Sd key d l1 bj e
 s4:Sd key d l1 e b
 cr:∀i j,a≤i→i<bj→bj≤j→j<b→key (l1.getD i d)≤key (l1.getD j d)
def pc.stay{l:List α}{a m b bj s:Nat}(h1:Sd key d l a m)(h2:Sd key d l m b)(hs:a≤s∧s≤bj∧s≤m∧m≤bj+m-s∧bj≤bj+m-s∧bj+m-s≤b)
  (hc:∀i j,a≤i→i<s→bj+m-s≤j→j<b→key (l.getD i d)≤key (l.getD j d)) (hn:¬(s<m∧m<bj+m-s)):pc key d l l a s bj (bj+m-s) b:=by
 obtain⟨e1,e2,e3,e4,e5,e6⟩:=hs
 by_cases hm:s=m
 ·subst hm
  have he:bj+s-s=bj:=omg
  rw[he] at hc ⊢
  refine⟨Rl.refl _ _ _,h1,h2.sub (Nat.le_refl _) omg,Sd.small omg,h2.sub e2 (Nat.le_refl _),fun i j i1 i2 j1 j2=>?_⟩
  by_cases hi:i<s
  ·exact hc i j i1 hi j1 j2
  ·exact h2 i j omg omg j2
 ·have hs2:s=bj:=omg
  subst hs2
  have he:s+m-s=m:=omg
  rw[he] at hc ⊢
  refine⟨Rl.refl _ _ _,h1.sub (Nat.le_refl _) omg,Sd.small omg,h1.sub e1 (Nat.le_refl _),h2,fun i j i1 i2 j1 j2=>?_⟩
  by_cases hj:j<m
  ·exact h1 i j i1 omg hj
  ·exact hc i j i1 i2 omg j2
def pc.rot{P X Y Z:List α}{a m b bj s:Nat}(hP:P.length=s)(hX:X.length=m-s)(hY:Y.length=bj+m-s-m)(h1:Sd key d (P++X++Y++Z) a m)(h2:Sd key d (P++X++Y++Z) m b)(hs:a≤s∧s≤bj∧s≤m∧m≤bj+m-s∧bj≤bj+m-s∧bj+m-s≤b)
  (hlt:∀i j,s≤i→i<m→m≤j→j<bj+m-s→key ((P++X++Y++Z).getD j d)<key ((P++X++Y++Z).getD i d))
  (hc:∀i j,a≤i→i<s→bj+m-s≤j→j<b→key ((P++X++Y++Z).getD i d)≤key ((P++X++Y++Z).getD j d))
  (hXm:∀x∈X,∃i,s≤i∧i<m∧x=(P++X++Y++Z).getD i d) (hYm:∀y∈Y,∃i,m≤i∧i<bj+m-s∧y=(P++X++Y++Z).getD i d):
  pc key d (P++X++Y++Z) (P++Y++X++Z) a s bj (bj+m-s) b:=by
 obtain⟨e1,e2,e3,e4,e5,e6⟩:=hs
 have hr:Rl key d (P++X++Y++Z) (P++Y++X++Z) a b:=Rl.rotate omg omg (fun x hx y hy=>by
  obtain⟨i,i1,i2,rfl⟩:=hXm x hx
  obtain⟨j,j1,j2,rfl⟩:=hYm y hy
  have:=hlt i j i1 i2 j1 j2
  omega)
 have g1:∀i,i<s→(P++Y++X++Z).getD i d=(P++X++Y++Z).getD i d:=fun i hi=>by rw[tJ,if_pos omg]
 have g2:∀i,s≤i→i<bj→(P++Y++X++Z).getD i d=(P++X++Y++Z).getD (i+(m-s)) d:=fun i i1 i2=>by rw[tJ,if_neg omg,if_pos omg,hX]
 have g3:∀i,bj≤i→i<bj+m-s→(P++Y++X++Z).getD i d=(P++X++Y++Z).getD (i-(bj+m-s-m)) d:=fun i i1 i2=>by rw[tJ,if_neg omg,if_neg omg,if_pos omg,hY]
 have g4:∀i,bj+m-s≤i→(P++Y++X++Z).getD i d=(P++X++Y++Z).getD i d:=fun i hi=>by rw[tJ,if_neg omg,if_neg omg,if_neg omg]
 refine⟨hr,fun i j i1 i2 i3=>?_,fun i j i1 i2 i3=>?_,fun i j i1 i2 i3=>?_,fun i j i1 i2 i3=>?_,fun i j i1 i2 j1 j2=>?_⟩
 ·rw[g1 i omg,g1 j omg];exact h1 i j i1 i2 omg
 ·rw[g2 i i1 omg,g2 j omg i3];exact h2 _ _ omg omg omg
 ·rw[g3 i i1 omg,g3 j omg i3];exact h1 _ _ omg omg omg
 ·rw[g4 i i1,g4 j omg];exact h2 _ _ omg i2 i3
 ·by_cases hi:i<s
  ·rw[g1 i hi]
   by_cases hj:j<bj+m-s
   ·rw[g3 j j1 hj];exact h1 _ _ i1 omg omg
   ·rw[g4 j omg];exact hc i j i1 hi omg j2
  ·rw[g2 i omg i2]
   by_cases hj:j<bj+m-s
   ·rw[g3 j j1 hj]
    have:=hlt (j-(bj+m-s-m)) (i+(m-s)) omg omg omg omg
    omega
   ·rw[g4 j omg];exact h2 _ _ omg omg j2
def rp{l1 l2:List α}{a bj b:Nat}(h:∀i j,a≤i→i<bj→bj≤j→j<b→key (l1.getD i d)≤key (l1.getD j d))(hr:Rl key d l1 l2 a bj):∀i j,a≤i→i<bj→bj≤j→j<b→key (l2.getD i d)≤key (l2.getD j d):=fun i j i1 i2 j1 j2=>by
 obtain⟨k,k1,k2,e⟩:=hr.mem i i1 i2
 rw[e,hr.out j omg]
 exact h k j k1 k2 j1 j2
def Cw{l1 l2:List α}{a bj b:Nat}(h:∀i j,a≤i→i<bj→bj≤j→j<b→key (l1.getD i d)≤key (l1.getD j d))(hr:Rl key d l1 l2 bj b):∀i j,a≤i→i<bj→bj≤j→j<b→key (l2.getD i d)≤key (l2.getD j d):=fun i j i1 i2 j1 j2=>by
 obtain⟨k,k1,k2,e⟩:=hr.mem j j1 j2
 rw[e,hr.out i omg]
 exact h i k i1 i2 k1 k2
def SM{l:List α}{a m b bj h st0 r0:Nat}(ham:a<m)(hmb:m<b)(hmid:bj=(a+b)/2)(h1:Sd key d l a m)(h2:Sd key d l m b)(e0:st0=if bj<m then bj+m-b else a)(e1:r0=if bj<m then bj else m)(i1:st0≤h)(i2:h<r0)
  (hk:key (l.getD h d)≤key (l.getD (bj+m-1-h) d)):∀x,st0≤x→x<h+1→key (l.getD x d)≤key (l.getD (bj+m-1-x) d):=fun x x1 x2=>by
 have f1:=h1 x h (by split at e0<;>omega) omg (by split at e1<;>omega)
 have f2:=h2 (bj+m-1-h) (bj+m-1-x) (by split at e1<;>omega) omg (by split at e0<;>omega)
 omega
def Vu{l:List α}{a m b bj h st0 r0:Nat}(ham:a<m)(hmb:m<b)(hmid:bj=(a+b)/2)(h1:Sd key d l a m)(h2:Sd key d l m b)(e0:st0=if bj<m then bj+m-b else a)(e1:r0=if bj<m then bj else m)(i1:st0≤h)(i2:h<r0)
  (hk:key (l.getD (bj+m-1-h) d)<key (l.getD h d)):∀x,h≤x→x<r0→key (l.getD (bj+m-1-x) d)<key (l.getD x d):=fun x x1 x2=>by
 have f1:=h1 h x (by split at e0<;>omega) omg (by split at e1<;>omega)
 have f2:=h2 (bj+m-1-x) (bj+m-1-h) (by split at e1<;>omega) omg (by split at e0<;>omega)
 omega
end Go.dj
namespace Go.dj
variable {α:Type} {key:α→Int} {d:α}
def xW{b x A:Nat}(h1:b∣x)(h2:b∣A)(h:x≤A):x=A∨x+b≤A:=by
 obtain⟨u,rfl⟩:=h1
 obtain⟨v,rfl⟩:=h2
 rcases Nat.eq_zero_or_pos b with hb|hb
 ·subst hb;left;simp
 ·have huv:u≤v:=Nat.le_of_mul_le_mul_left h hb
  rcases Nat.lt_or_ge u v with h3|h3
  ·right
   have:=Nat.mul_le_mul_left b h3
   rw[Nat.mul_succ] at this
   exact this
  ·left;congr 1;omega
def Bk (key:α→Int) (d:α) (l:List α) (s n:Nat):Prop:=∀x,s∣x→Sd key d l x (min (x+s) n)
def Bd (key:α→Int) (d:α) (l:List α) (s A:Nat):Prop:=∀x,s∣x→x+s≤A→Sd key d l x (x+s)
def Bd.zero(l:List α)(s:Nat)(hs:0<s):Bd key d l s 0:=fun x _ h=>by omega
def Bd.step{l l2:List α}{s A:Nat}(h:Bd key d l s A)(hA:s∣A)(hr:Rl key d l l2 A (s+A))(h2:Sd key d l2 A (s+A)):Bd key d l2 s (s+A):=fun x hx hle=>by
 rcases xW hx hA omg with e|e
 ·subst e;exact h2.sub (Nat.le_refl _) omg
 ·exact(h x hx e).congr (fun i i1 i2=>hr.out i omg)
def Bd.fin{l l2:List α}{s A n:Nat}(h:Bd key d l s A)(hA:s∣A)(hAn:A≤n)(hn:n<s+A)(hr:Rl key d l l2 A n)(h2:Sd key d l2 A n):Bk key d l2 s n:=fun x hx=>by
 rcases Nat.lt_or_ge A x with h3|h3
 ·rcases xW hA hx (Nat.le_of_lt h3) with e|e
  ·omega
  ·exact Sd.small omg
 ·rcases xW hx hA h3 with e|e
  ·subst e;exact h2.sub (Nat.le_refl _) omg
  ·rw[Nat.min_eq_left omg]
   exact(h x hx e).congr (fun i i1 i2=>hr.out i omg)
def Br (key:α→Int) (d:α) (l:List α) (s n A:Nat):Prop:=∀x,s∣x→A≤x→Sd key d l x (min (x+s) n)
def Bk.br{l:List α}{s n:Nat}(h:Bk key d l s n):Br key d l s n 0:=fun x hx _=>h x hx
def Br.step{l l2:List α}{s n A B:Nat}(h:Br key d l s n A)(hAB:A≤B)(hr:Rl key d l l2 A B):Br key d l2 s n B:=fun x hx hle=>(h x hx omg).congr (fun i i1 i2=>hr.out i omg)
def pT{s A:Nat}(h:2*s∣A):s∣A:=Nat.dvd_trans ⟨2,by rw[Nat.mul_comm]⟩ h
def Br.two{l:List α}{s n A:Nat}(h:Br key d l s n A)(hA:2*s∣A)(hn:2*s+A≤n):Sd key d l A (A+s)∧Sd key d l (A+s) (2*s+A):=by
 have h1:=h A (pT hA) (Nat.le_refl _)
 have h2:=h (A+s) (Nat.dvd_add (pT hA) (Nat.dvd_refl _)) omg
 rw[Nat.min_eq_left omg] at h1
 rw[Nat.min_eq_left omg] at h2
 exact⟨h1,h2.sub (Nat.le_refl _) omg⟩
def Br.last{l:List α}{s n A:Nat}(h:Br key d l s n A)(hA:2*s∣A)(hn:n<2*s+A)(hm:A+s<n):Sd key d l A (A+s)∧Sd key d l (A+s) n:=by
 have h1:=h A (pT hA) (Nat.le_refl _)
 have h2:=h (A+s) (Nat.dvd_add (pT hA) (Nat.dvd_refl _)) omg
 rw[Nat.min_eq_left omg] at h1
 rw[Nat.min_eq_right omg] at h2
 exact⟨h1,h2⟩
def Br.one{l:List α}{s n A:Nat}(h:Br key d l s n A)(hA:2*s∣A)(hm:n≤A+s):Sd key d l A n:=by
 have h1:=h A (pT hA) (Nat.le_refl _)
 rwa [Nat.min_eq_right omg] at h1
def Bk.all{l:List α}{s n:Nat}(h:Bk key d l s n)(hn:n≤s):Sd key d l 0 n:=by
 have:=h 0 (Nat.dvd_zero _)
 rwa [Nat.min_eq_right omg] at this
end Go.dj
namespace Go.ae
def cls (ls:List Int) (n:Nat):List Int:=((List.range ls.length).filter (fun i=>decide (ls.getD i 0=(n:Int)))).map (fun i:Nat=>(i:Int))
def dW (ls:List Int):Nat→List Int
 |0=>[]
 |n+1=>dW ls n++cls ls (n+1)
def ord (ls:List Int):List Int:=dW ls 15
def off (ls:List Int):Nat→Nat
 |0=>0
 |n+1=>(dW ls n).length
def cnt (ls:List Int) (n:Nat):Int:=if n=0 then 0 else((cls ls n).length:Int)
def bV (ls:List Int):List Int:=(List.range 16).map (cnt ls)
def base (ls:List Int):Nat→Int
 |0=>0
 |n+1=>2*(base ls n+cnt ls n)
def lenOf (ls:List Int) (s:Nat):Nat:=(ls.getD s 0).toNat
def fZ (ls:List Int) (s:Nat):Int:=base ls (lenOf ls s)+((cls (ls.take s) (lenOf ls s)).length:Int)
def Vl (ls:List Int):Prop:=ls.length≤320∧∀x∈ls,0≤x∧x≤15
def iL(ls:List Int):(bV ls).length=16:=by simp[bV]
def oG{ls:List Int}{n:Nat}(h:n<16):(bV ls).getD n 0=cnt ls n:=by simp[bV,List.getD_eq_getElem?_getD,h]
def n6(ls:List Int)(n:Nat):(cls ls n).length≤ls.length:=by
 unfold cls
 have:=List.length_filter_le (fun i=>decide (ls.getD i 0=(n:Int))) (List.range ls.length)
 simpa using this
def gJ(ls:List Int)(n:Nat):0≤cnt ls n:=by unfold cnt;split<;>omega
def Uu(ls:List Int)(n:Nat):cnt ls n≤ls.length:=by
 have:=n6 ls n
 unfold cnt;split<;>omega
def getD_take{ls:List Int}{i k:Nat}(h:i<k):(ls.take k).getD i 0=ls.getD i 0:=by
 simp[List.getD_eq_getElem?_getD,List.getElem?_take,h]
def lF{ls:List Int}{k n:Nat}(h:k<ls.length):cls (ls.take (k+1)) n=cls (ls.take k) n++(if ls[k]=(n:Int) then [(k:Int)] else []):=by
 unfold cls
 have e1:(ls.take (k+1)).length=k+1:=by simp;omega
 have e2:(ls.take k).length=k:=by simp;omega
 rw[e1,e2,List.range_succ,List.filter_append,List.map_append]
 congr 1
 ·congr 1
  apply List.filter_congr
  intro i hi
  have hi:=List.mem_range.1 hi
  rw[getD_take omg,getD_take hi]
 ·have:(ls.take (k+1)).getD k 0=ls[k]:=by rw[getD_take omg];simp[List.getD_eq_getElem?_getD,h]
  by_cases he:ls[k]=(n:Int)
  ·simp only[List.filter_cons,List.filter_nil,this,he,decide_true,decide_false,if_true,if_false,List.map_cons,List.map_nil];try rfl
  ·simp only[List.filter_cons,List.filter_nil,this,he,decide_true,decide_false,if_true,if_false,List.map_cons,List.map_nil];try rfl
def vD(n:Nat):cls [] n=[]:=by simp[cls]
def vb{ls:List Int}{k n:Nat}(h:k<ls.length):cnt (ls.take (k+1)) n=cnt (ls.take k) n+(if n≠0∧ls[k]=(n:Int) then 1 else 0):=by
 unfold cnt
 by_cases h0:n=0
 ·simp[h0]
 ·rw[if_neg h0,if_neg h0,lF h]
  by_cases he:ls[k]=(n:Int)
  ·simp[he,h0]
  ·simp[he]
def GA{ls:List Int}{k:Nat}(h:k<ls.length)(h1:0<ls[k])(h2:ls[k]≤15):bV (ls.take (k+1))=(bV (ls.take k)).set ls[k].toNat ((bV (ls.take k)).getD ls[k].toNat 0+1):=by
 apply List.ext_getElem?
 intro i
 by_cases hi:i<16
 ·rw[List.getElem?_set]
  by_cases he:ls[k].toNat=i
  ·rw[if_pos he,if_pos (by rw[iL];omega),he,oG hi]
   simp only[bV,List.getElem?_map,List.getElem?_range hi,Option.map_some]
   rw[vb h,if_pos ⟨omg,omg⟩]
  ·rw[if_neg he]
   simp only[bV,List.getElem?_map,List.getElem?_range hi,Option.map_some]
   rw[vb h,if_neg (fun hh=>he omg)]
   simp
 ·rw[List.getElem?_eq_none (by rw[iL];omega),List.getElem?_eq_none (by rw[List.length_set,iL];omega)]
def HO{ls:List Int}{k:Nat}(h:k<ls.length)(h1:ls[k]=0):bV (ls.take (k+1))=bV (ls.take k):=by
 unfold bV
 apply List.map_congr_left
 intro i _
 rw[vb h,if_neg (fun hh=>hh.1 omg)]
 simp
def KI:bV []=List.replicate 16 0:=by
 have:cnt []=fun _=>0:=by funext n;simp[cnt,vD]
 unfold bV
 rw[this]
 rfl
def df (ls:List Int):List Int:=((List.range ls.length).filter (fun i=>decide (0<ls.getD i 0))).map (fun i:Nat=>(i:Int))
def nF{ls:List Int}{k:Nat}(h:k<ls.length):df (ls.take (k+1))=df (ls.take k)++(if 0<ls[k] then [(k:Int)] else []):=by
 unfold df
 have e1:(ls.take (k+1)).length=k+1:=by simp;omega
 have e2:(ls.take k).length=k:=by simp;omega
 rw[e1,e2,List.range_succ,List.filter_append,List.map_append]
 congr 1
 ·congr 1
  apply List.filter_congr
  intro i hi
  have hi:=List.mem_range.1 hi
  rw[getD_take omg,getD_take hi]
 ·have:(ls.take (k+1)).getD k 0=ls[k]:=by rw[getD_take omg];simp[List.getD_eq_getElem?_getD,h]
  by_cases he:0<ls[k]
  ·simp only[List.filter_cons,List.filter_nil,this,he,decide_true,decide_false,if_true,if_false,List.map_cons,List.map_nil];try rfl
  ·simp only[List.filter_cons,List.filter_nil,this,he,decide_true,decide_false,if_true,if_false,List.map_cons,List.map_nil];try rfl
def tQ(ls:List Int):(df ls).length≤ls.length:=by
 unfold df
 have:=List.length_filter_le (fun i=>decide (0<ls.getD i 0)) (List.range ls.length)
 simpa using this
def left (C:List Int):Nat→Int
 |0=>1
 |n+1=>2*left C n-C.getD (n+1) 0
def gT (C:List Int) (all:Int):Bool:=(List.range 15).all (fun n=>decide (0≤left C (n+1)))&&(decide (left C 15=0)||decide (all=0)||(decide (all=1)&&decide (C.getD 1 0=1)))
def Eu{C:List Int}(hC:∀i,0≤C.getD i 0):∀n,left C n≤2^n
 |0=>by simp[left]
 |n+1=>by
  have h:=Eu hC n
  have:=hC (n+1)
  simp only[left]
  rw[Int.pow_succ]
  omega
def wo{C:List Int}(hC:∀i,0≤C.getD i 0){n:Nat}(hn:n≤15):left C n≤32768:=by
 refine Int.le_trans (Eu hC n) ?_
 have:(2:Nat)^n≤2^15:=Nat.pow_le_pow_right dec hn
 have e:((2:Int)^n)=((2^n:Nat):Int):=by simp
 rw[e]
 omega
def vH{C:List Int}{all:Int}{n:Nat}(h1:1≤n)(h2:n≤15)(h:left C n<0):gT C all=false:=by
 unfold gT
 have:(List.range 15).all (fun n=>decide (0≤left C (n+1)))=false:=by
  rw[List.all_eq_false]
  exact⟨n-1,List.mem_range.2 omg,by rw[show n-1+1=n by omega];simpa using h⟩
 rw[this];rfl
def yS{C:List Int}{all:Int}(h:∀n,1≤n→n≤15→0≤left C n):gT C all=(decide (left C 15=0)||decide (all=0)||(decide (all=1)&&decide (C.getD 1 0=1))):=by
 unfold gT
 have:(List.range 15).all (fun n=>decide (0≤left C (n+1)))=true:=by
  rw[List.all_eq_true]
  intro x hx
  have:=List.mem_range.1 hx
  simpa using h (x+1) omg omg
 rw[this];rfl
def EG{C:List Int}{k:Nat}(hno:∀m,1≤m→m≤k→0≤left C m):0≤left C k:=by
 rcases Nat.eq_zero_or_pos k with e|e
 ·subst e;simp[left]
 ·exact hno k e (Nat.le_refl _)
def nu{C:List Int}{k:Nat}:2*left C k-C.getD ((k:Int)+1).toNat 0=left C (k+1):=by
 rw[show((k:Int)+1).toNat=k+1 by omega];rfl
def zC{C:List Int}{k:Nat}(hno:∀m,1≤m→m≤k→0≤left C m)(h:¬2*left C k-C.getD ((k:Int)+1).toNat 0<0):∀m,1≤m→m≤k+1→0≤left C m:=by
 intro m h1 h2
 rcases Nat.lt_or_ge m (k+1) with h3|h3
 ·exact hno m h1 omg
 ·obtain rfl:m=k+1:=omg
  rw[nu] at h
  omega
def ji{C:List Int}{all:Int}{k:Nat}(hk:k≤15)(h8:¬((k:Int)+1≤15))(hno:∀m,1≤m→m≤k→0≤left C m):gT C all=(decide (left C k=0)||decide (all=0)||(decide (all=1)&&decide (C.getD (Int.toNat 1) 0=1))):=by
 obtain rfl:k=15:=omg
 exact yS hno
def okB (ls:List Int):Bool:=ls.all (fun x=>decide (0≤x∧x≤15))
def bp (ls:List Int):Int:=if 320<ls.length then 1 else if okB ls=true then(if gT (bV ls) ((df ls).length:Int)=true then 0 else 4) else 1
def cU (ls:List Int):Int:=ls.foldl (fun a x=>if a<x then x else a) 0
def km{ls:List Int}{n:Nat}{x:Int}:x∈cls ls n↔0≤x∧x.toNat<ls.length∧ls.getD x.toNat 0=(n:Int):=by
 unfold cls
 simp only[List.mem_map,List.mem_filter,List.mem_range,decide_eq_true_eq]
 constructor
 ·rintro⟨i,⟨h1,h2⟩,rfl⟩
  exact⟨omg,by simpa using h1,by simpa using h2⟩
 ·rintro⟨h1,h2,h3⟩
  exact⟨x.toNat,⟨h2,h3⟩,omg⟩
def vi{ls:List Int}{x:Int}:∀ {n:Nat},x∈dW ls n↔∃m,1≤m∧m≤n∧x∈cls ls m
 |0=>by simp[dW];omega
 |n+1=>by
  simp only[dW,List.mem_append,vi (n:=n)]
  constructor
  ·rintro(⟨m,h1,h2,h3⟩|h)
   ·exact⟨m,h1,omg,h3⟩
   ·exact⟨n+1,omg,Nat.le_refl _,h⟩
  ·rintro⟨m,h1,h2,h3⟩
   by_cases e:m=n+1
   ·subst e;exact .inr h3
   ·exact .inl ⟨m,h1,omg,h3⟩
def uf{ls:List Int}(hv:Vl ls){x:Int}:x∈ord ls↔0≤x∧x.toNat<ls.length∧0<ls.getD x.toNat 0:=by
 unfold ord
 rw[vi]
 constructor
 ·rintro⟨m,h1,h2,h3⟩
  obtain⟨a,b,c⟩:=km.1 h3
  exact⟨a,b,omg⟩
 ·rintro⟨h1,h2,h3⟩
  have h4:=hv.2 (ls.getD x.toNat 0) (by simp[List.getD_eq_getElem?_getD,h2])
  refine⟨(ls.getD x.toNat 0).toNat,omg,omg,km.2 ⟨h1,h2,omg⟩⟩
def oW(ls:List Int){n:Nat}(h:1≤n):off ls (n+1)=off ls n+(cls ls n).length:=by
 obtain⟨m,rfl⟩:∃m,n=m+1:=⟨n-1,omg⟩
 simp[off,dW]
def kZ(ls:List Int)(n:Nat):(off ls (n+1):Int)=off ls n+cnt ls n:=by
 rcases Nat.eq_zero_or_pos n with h|h
 ·subst h;simp[off,dW,cnt]
 ·rw[oW ls h]
  unfold cnt
  rw[if_neg omg]
  omega
def Kd(ls:List Int){m n:Nat}(h:m≤n):∃t,dW ls n=dW ls m++t:=by
 induction n with
 |zero=>
  obtain rfl:m=0:=omg
  exact⟨[],by simp⟩
 |succ n ih=>
  by_cases e:m=n+1
  ·subst e;exact⟨[],by simp⟩
  ·obtain⟨t,ht⟩:=ih omg
   exact⟨t++cls ls (n+1),by simp[dW,ht]⟩
def iM(ls:List Int){m n:Nat}(h:m≤n):off ls m≤off ls n:=by
 induction n with
 |zero=>
  obtain rfl:m=0:=omg
  exact Nat.le_refl _
 |succ n ih=>
  by_cases e:m=n+1
  ·subst e;exact Nat.le_refl _
  ·have:=ih omg
   have h2:=kZ ls n
   have h3:=gJ ls n
   omega
def mP(ls:List Int):(ord ls).length=off ls 16:=rfl
def PI{ls:List Int}{n r:Nat}(h1:1≤n)(h2:n≤15)(h:r<(cls ls n).length):(ord ls).getD (off ls n+r) 0=(cls ls n).getD r 0:=by
 obtain⟨t,ht⟩:=Kd ls (show n≤15 from h2)
 obtain⟨m,rfl⟩:∃m,n=m+1:=⟨n-1,omg⟩
 have e:ord ls=dW ls m++cls ls (m+1)++t:=by unfold ord;rw[ht];rfl
 rw[e,List.append_assoc]
 simp only[List.getD_eq_getElem?_getD,off]
 rw[List.getElem?_append_right omg,List.getElem?_append_left omg]
 congr 2
 omega
def tI{ls:List Int}{p:Nat}(h:p<(ord ls).length):∃n r,1≤n∧n≤15∧r<(cls ls n).length∧p=off ls n+r:=by
 have key:∀n,p<off ls (n+1)→∃m r,1≤m∧m≤n∧r<(cls ls m).length∧p=off ls m+r:=by
  intro n
  induction n with
  |zero=>intro h;simp[off,dW] at h
  |succ n ih=>
   intro h
   by_cases h2:p<off ls (n+1)
   ·obtain⟨m,r,a,b,c,d⟩:=ih h2
    exact⟨m,r,a,omg,c,d⟩
   ·have:=oW ls (n:=n+1) omg
    exact⟨n+1,p-off ls (n+1),omg,Nat.le_refl _,omg,omg⟩
 exact key 15 h
def K0{ls:List Int}{s n:Nat}(h:s<ls.length)(hn:ls.getD s 0=(n:Int)):∃t,cls ls n=cls (ls.take s) n++((s:Int)::t):=by
 have e:ls=ls.take (s+1)++ls.drop (s+1):=(List.take_append_drop _ _).symm
 have key:∀k,s+1+k≤ls.length→∃t,cls (ls.take (s+1+k)) n=cls (ls.take s) n++((s:Int)::t):=by
  intro k
  induction k with
  |zero=>
   intro _
   refine⟨[],?_⟩
   rw[Nat.add_zero,lF h,if_pos (by rw[←hn];simp[List.getD_eq_getElem?_getD,h])]
  |succ k ih=>
   intro hk
   obtain⟨t,ht⟩:=ih omg
   refine⟨t++(if ls[s+1+k]=(n:Int) then [((s+1+k:Nat):Int)] else []),?_⟩
   rw[show s+1+(k+1)=(s+1+k)+1 by omega,lF (show s+1+k<ls.length by omega),ht]
   simp
 obtain⟨t,ht⟩:=key (ls.length-(s+1)) omg
 rw[show s+1+(ls.length-(s+1))=ls.length by omega,List.take_length] at ht
 exact⟨t,ht⟩
def zD(ls:List Int)(n:Nat):(cls ls n).Nodup:=by
 unfold cls
 have h:((List.range ls.length).filter (fun i=>decide (ls.getD i 0=(n:Int)))).Nodup:=List.Pairwise.filter _ List.nodup_range
 rw[List.Nodup,List.pairwise_map]
 exact List.Pairwise.imp (fun{a b} hab he=>hab (Int.ofNat.inj he)) h
def uh{ls:List Int}{n r:Nat}(h1:1≤n)(h2:n≤15)(h:r<(cls ls n).length):
  ∃s:Nat,(ord ls).getD (off ls n+r) 0=(s:Int)∧s<ls.length∧ls.getD s 0=(n:Int)∧lenOf ls s=n∧fZ ls s=base ls n+r:=by
 have hr0:(cls ls n)[r]?=some ((cls ls n).getD r 0):=by simp[List.getD_eq_getElem?_getD,h]
 have hm:(cls ls n).getD r 0∈cls ls n:=List.mem_of_getElem? hr0
 obtain⟨a,b,c⟩:=km.1 hm
 obtain⟨s,hs⟩:∃s:Nat,(cls ls n).getD r 0=(s:Int):=⟨((cls ls n).getD r 0).toNat,omg⟩
 rw[hs] at hr0 b c
 simp only[Int.toNat_natCast] at b c
 have hl:lenOf ls s=n:=by unfold lenOf;rw[c];omega
 refine⟨s,by rw[PI h1 h2 h,hs],b,c,hl,?_⟩
 unfold fZ
 rw[hl]
 congr 1
 obtain⟨t,ht⟩:=K0 b c
 have hidx:(cls ls n)[(cls (ls.take s) n).length]?=some (s:Int):=by
  rw[ht,List.getElem?_append_right (Nat.le_refl _),Nat.sub_self]
  rfl
 have:=(List.getElem?_inj (List.getElem?_eq_some_iff.1 hr0).1 (zD ls n)).1 (hr0.trans hidx.symm)
 omega
def qT{ls:List Int}{m n:Nat}(h:m≤n)(hz:∀k,m<k→k<n→cnt ls k=0)(hmn:m<n):base ls n=(base ls m+cnt ls m)*2^(n-m):=by
 induction n with
 |zero=>omega
 |succ n ih=>
  by_cases e:m=n
  ·subst e
   rw[show m+1-m=1 by omega]
   simp only[base]
   omega
  ·have:=ih omg (fun k k1 k2=>hz k k1 omg) omg
   simp only[base]
   rw[this,hz n omg omg,show n+1-m=(n-m)+1 by omega,Int.pow_succ]
   rw[Int.add_zero,Int.mul_comm 2,Int.mul_assoc]
def Gg{ls:List Int}{p:Nat}(hp:p+1<(ord ls).length):∃s t:Nat,(ord ls).getD p 0=(s:Int)∧(ord ls).getD (p+1) 0=(t:Int)∧s<ls.length∧t<ls.length∧1≤lenOf ls s∧lenOf ls s≤lenOf ls t∧lenOf ls t≤15∧ls.getD s 0=(lenOf ls s:Int)∧ls.getD t 0=(lenOf ls t:Int)∧fZ ls t=(fZ ls s+1)*2^(lenOf ls t-lenOf ls s):=by
 obtain⟨m,r,m1,m2,hr,e1⟩:=tI (show p<(ord ls).length by omega)
 obtain⟨n,q,n1,n2,hq,e2⟩:=tI hp
 obtain⟨s,s1,s2,s3,s4,s5⟩:=uh m1 m2 hr
 obtain⟨t,t1,t2,t3,t4,t5⟩:=uh n1 n2 hq
 have hmn:m≤n:=by
  rcases Nat.lt_or_ge n m with h|h
  ·exfalso
   have:=iM ls (show n+1≤m from h)
   have:=oW ls n1
   omega
  ·exact h
 refine⟨s,t,by rw[e1];exact s1,by rw[e2];exact t1,s2,t2,omg,omg,omg,by rw[s4];exact s3,by rw[t4];exact t3,?_⟩
 rw[s4,t4,s5,t5]
 by_cases e:m=n
 ·subst e
  rw[Nat.sub_self]
  simp
  omega
 ·have h3:=iM ls (show m+1≤n by omega)
  have h4:=oW ls m1
  have hq0:q=0:=omg
  have hrl:r+1=(cls ls m).length:=omg
  subst hq0
  have hz:∀k,m<k→k<n→cnt ls k=0:=by
   intro k k1 k2
   have h5:=iM ls (show m+1≤k by omega)
   have h6:=iM ls (show k+1≤n by omega)
   have h7:=kZ ls k
   have h8:=gJ ls k
   omega
  have hc:cnt ls m=(r:Int)+1:=by unfold cnt;rw[if_neg omg];omega
  rw[qT hmn hz omg,hc]
  simp[Int.add_assoc]
def F5{ls:List Int}(hp:0<(ord ls).length):∃t:Nat,(ord ls).getD 0 0=(t:Int)∧t<ls.length∧1≤lenOf ls t∧lenOf ls t≤15∧ls.getD t 0=(lenOf ls t:Int)∧fZ ls t=0:=by
 obtain⟨n,q,n1,n2,hq,e2⟩:=tI hp
 obtain⟨t,t1,t2,t3,t4,t5⟩:=uh n1 n2 hq
 refine⟨t,by rw[e2];exact t1,t2,omg,omg,by rw[t4];exact t3,?_⟩
 have hz:∀k,0<k→k<n→cnt ls k=0:=by
  intro k k1 k2
  have h6:=iM ls (show k+1≤n by omega)
  have h7:=kZ ls k
  have h8:=gJ ls k
  omega
 rw[t5,qT (Nat.zero_le n) hz omg]
 simp[base,cnt]
 omega
end Go.ae

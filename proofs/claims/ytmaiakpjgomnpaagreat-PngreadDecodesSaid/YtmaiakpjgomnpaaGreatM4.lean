/- Walks of functions that the law reaches, and what they lean on; no conditions. -/
import Derived.Test.YtmaiakpjgomnpaaGreatM3
set_option linter.defProp false
set_option maxHeartbeats 16000000
set_option maxRecDepth 100000
set_option linter.unusedVariables false
set_option linter.unusedSimpArgs false
set_option maxRecDepth 100000

namespace Go.aC
open Go.ag Go.ab
def oI{x:Int}(h:0≤x∧x<256):∃k:Fin 256,x=((k.val:Nat):Int):=⟨⟨x.toNat,omg⟩,by simp only;omega⟩
def HT:∀k:Fin 256,IntKind.i64.wrap ((BitVec.ofInt IntKind.i64.bits ((k.val:Nat):Int)&&&BitVec.ofInt IntKind.i64.bits 15).toNat:Int)=((k.val:Nat):Int)%16:=by decide+kernel
def G6:∀k:Fin 256,IntKind.i64.wrap ((BitVec.ofInt IntKind.i64.bits ((k.val:Nat):Int)&&&BitVec.ofInt IntKind.i64.bits 32).toNat:Int)=32*(((k.val:Nat):Int)/32%2):=by decide+kernel
def Fa:∀k:Fin 256,IntKind.u8.wrap ((BitVec.ofInt IntKind.u8.bits ((k.val:Nat):Int)&&&BitVec.ofInt IntKind.u8.bits 15).toNat:Int)=((k.val:Nat):Int)%16:=by decide+kernel
def Fx:∀k:Fin 256,IntKind.u8.wrap ((BitVec.ofInt IntKind.u8.bits ((k.val:Nat):Int)&&&BitVec.ofInt IntKind.u8.bits 32).toNat:Int)=32*(((k.val:Nat):Int)/32%2):=by decide+kernel
def X3{x:Int}(h:0≤x∧x<256):IntKind.i64.wrap ((BitVec.ofInt IntKind.i64.bits x&&&BitVec.ofInt IntKind.i64.bits 15).toNat:Int)=x%16:=by obtain⟨k,rfl⟩:=oI h;exact HT k
def FV{x:Int}(h:0≤x∧x<256):IntKind.i64.wrap ((BitVec.ofInt IntKind.i64.bits x&&&BitVec.ofInt IntKind.i64.bits 32).toNat:Int)=32*(x/32%2):=by obtain⟨k,rfl⟩:=oI h;exact G6 k
def Ux{x:Int}(h:0≤x∧x<256):IntKind.u8.wrap ((BitVec.ofInt IntKind.u8.bits x&&&BitVec.ofInt IntKind.u8.bits 15).toNat:Int)=x%16:=by obtain⟨k,rfl⟩:=oI h;exact Fa k
def AN{x:Int}(h:0≤x∧x<256):IntKind.u8.wrap ((BitVec.ofInt IntKind.u8.bits x&&&BitVec.ofInt IntKind.u8.bits 32).toNat:Int)=32*(x/32%2):=by obtain⟨k,rfl⟩:=oI h;exact Fx k
def sh4{x:Int}(h:0≤x):x.fdiv (2^(min (4:Int).toNat IntKind.i64.bits))=x/16:=by rw[Int.fdiv_eq_ediv_of_nonneg _ dec];rfl
def ab5{x:Int}(h:0≤x):x.fdiv (2^(min (4:Int).toNat IntKind.u8.bits))=x/16:=by rw[Int.fdiv_eq_ediv_of_nonneg _ dec];rfl
def HA{a b n:Nat}(hb:b<2^n):(a*2^n)|||b=a*2^n+b:=by
  have:=Nat.shiftLeft_add_eq_or_of_lt hb a
  rw[Nat.shiftLeft_eq] at this
  exact this.symm
def wrap32{n:Int}(h1:0≤n)(h2:n<4294967296):IntKind.u32.wrap n=n:=by
  have e:IntKind.u32.wrap n=n%4294967296:=rfl
  rw[e];omega
def wrap64{n:Int}(h1:0≤n)(h2:n<4294967296):IntKind.i64.wrap n=n:=Go.Sl.gI omg omg
def vw{x y u:Int}{n:Nat}(hx:x=u*2^n)(hu:0≤u)(hy:0≤y∧y<2^n)(h:x+y<4294967296):IntKind.u32.wrap ((BitVec.ofInt IntKind.u32.bits x|||BitVec.ofInt IntKind.u32.bits y).toNat:Int)=x+y:=by
  obtain⟨a,rfl⟩:∃a:Nat,u=(a:Int):=⟨u.toNat,omg⟩
  obtain⟨b,rfl⟩:∃b:Nat,y=(b:Int):=⟨y.toNat,omg⟩
  have e:IntKind.u32.bits=32:=rfl
  have hb:b<2^n:=by have:=hy.2;exact_mod_cast this
  have hx2:x=((a*2^n:Nat):Int):=by rw[hx];push_cast;rfl
  subst hx2
  rw[e,BitVec.toNat_or,dU,dU,Nat.mod_eq_of_lt omg,Nat.mod_eq_of_lt omg,HA hb,wrap32 omg omg]
  omega
def pQ{x y u:Int}{n:Nat}(hx:x=u*2^n)(hu:0≤u)(hy:0≤y∧y<2^n)(h:x+y<4294967296):IntKind.i64.wrap ((BitVec.ofInt IntKind.i64.bits x|||BitVec.ofInt IntKind.i64.bits y).toNat:Int)=x+y:=by
  obtain⟨a,rfl⟩:∃a:Nat,u=(a:Int):=⟨u.toNat,omg⟩
  obtain⟨b,rfl⟩:∃b:Nat,y=(b:Int):=⟨y.toNat,omg⟩
  have e:IntKind.i64.bits=64:=rfl
  have hb:b<2^n:=by have:=hy.2;exact_mod_cast this
  have hx2:x=((a*2^n:Nat):Int):=by rw[hx];push_cast;rfl
  subst hx2
  rw[e,BitVec.toNat_or,dU,dU,Nat.mod_eq_of_lt omg,Nat.mod_eq_of_lt omg,HA hb,wrap64 omg omg]
  omega
def vl{x r:Int}{n:Nat}{d:Int}(hd:d=(n:Int))(hn:n≤32)(hr:r=x*2^n)(h0:0≤r)(h1:r<4294967296):IntKind.i64.wrap (x*2^(min d.toNat IntKind.i64.bits))=r:=by
  have e:min d.toNat IntKind.i64.bits=n:=by
    have:IntKind.i64.bits=64:=rfl
    omega
  rw[e,←hr];exact wrap64 h0 h1
def vx{x r:Int}{n:Nat}{d:Int}(hd:d=(n:Int))(hn:n≤32)(hr:r=x*2^n)(h0:0≤r)(h1:r<4294967296):IntKind.u32.wrap (x*2^(min d.toNat IntKind.u32.bits))=r:=by
  have e:min d.toNat IntKind.u32.bits=n:=by
    have:IntKind.u32.bits=32:=rfl
    omega
  rw[e,←hr];exact wrap32 h0 h1
def Ft{x:Int}{n:Nat}{d:Int}(hd:d=(n:Int))(hn:n≤32):x.fdiv (2^(min d.toNat IntKind.u32.bits))=x/2^n:=by
  have e:min d.toNat IntKind.u32.bits=n:=by
    have:IntKind.u32.bits=32:=rfl
    omega
  rw[e,Int.fdiv_eq_ediv_of_nonneg _ (Int.le_of_lt (Int.pow_pos dec))]
def se (s:Int×Int) (c:Int):Int×Int:=((s.1+c)%65521,(s.2+(s.1+c)%65521)%65521)
def gh (l:List Int):Int×Int:=l.foldl se (1,0)
def uu:gh []=(1,0):=rfl
def Lx(l:List Int)(c:Int):gh (l++[c])=se (gh l) c:=by simp[gh]
def rK{l:List Int}{i:Nat}(h:i<l.length):gh (l.take (i+1))=se (gh (l.take i)) (l.getD i 0):=by rw[ab.kN h,Lx]
def VS(s:Int×Int)(c:Int):(0≤(se s c).1∧(se s c).1<65521)∧0≤(se s c).2∧(se s c).2<65521:=by unfold se;simp only;omega
def PJ(l:List Int):∀s:Int×Int,((0≤s.1∧s.1<65521)∧0≤s.2∧s.2<65521)→(0≤(l.foldl se s).1∧(l.foldl se s).1<65521)∧0≤(l.foldl se s).2∧(l.foldl se s).2<65521:=by
  induction l with
  |nil=>exact fun s h=>h
  |cons a l ih=>exact fun s h=>ih _ (VS s a)
def sJ(l:List Int):(0≤(gh l).1∧(gh l).1<65521)∧0≤(gh l).2∧(gh l).2<65521:=PJ l _ dec
def fU (l:List Int):Int:=(gh l).2*65536+(gh l).1
def xh(l:List Int):0≤fU l∧fU l<4294967296:=by have:=sJ l;unfold fU;omega
def kh (l:List Int):List Int:=[fU l/16777216,fU l/65536%256,fU l/256%256,fU l%256]
def xY(l:List Int):(kh l).length=4:=rfl
def uo(l:List Int):aq (kh l):=fun x hx=>by
  have:=xh l
  simp only[kh,List.mem_cons,List.not_mem_nil,or_false] at hx
  rcases hx with rfl|rfl|rfl|rfl<;>omega
def bN (l:List Int):Int:=l.getD 0 0*16777216+l.getD 1 0*65536+l.getD 2 0*256+l.getD 3 0
def OR(l:List Int):bN (kh l)=fU l:=by
  have:=xh l
  simp only[bN,kh,List.getD_cons_zero,List.getD_cons_succ]
  omega
def O6{l b:List Int}(hl:l.length=4)(hb:aq l)(h:bN l=fU b):l=kh b:=by
  match l,hl with
  |[x,y,z,t],_=>
    have h1:=hb x (by simp);have h2:=hb y (by simp);have h3:=hb z (by simp);have h4:=hb t (by simp)
    simp only[bN,List.getD_cons_zero,List.getD_cons_succ] at h
    simp only[kh,←h]
    have e1:(x*16777216+y*65536+z*256+t)/16777216=x:=omg
    have e2:(x*16777216+y*65536+z*256+t)/65536%256=y:=omg
    have e3:(x*16777216+y*65536+z*256+t)/256%256=z:=omg
    have e4:(x*16777216+y*65536+z*256+t)%256=t:=omg
    rw[e1,e2,e3,e4]
def Hd (a b:Int):Prop:=a%16=8∧a/16≤7∧(a*256+b)%31=0∧32*(b/32%2)=0
instance (a b:Int):Decidable (Hd a b):=by unfold Hd;infer_instance
def XP(a b:Int):¬a%16=8∨(a%16=8∧¬a/16≤7)∨(a%16=8∧a/16≤7∧¬(a*256+b)%31=0)∨(a%16=8∧a/16≤7∧(a*256+b)%31=0∧¬32*(b/32%2)=0)∨(a%16=8∧a/16≤7∧(a*256+b)%31=0∧32*(b/32%2)=0):=omg
def fin (D:List Int) (r:List Int×Int×Int):List Int×Int:=
  if¬r.2.2=0 then([],r.2.2) else if D.length-r.2.1.toNat<4 then([],2) else if 4<D.length-r.2.1.toNat then([],4) else if D.drop r.2.1.toNat=kh r.1 then(r.1,0) else([],5)
def nb (B:List Int) (mo:Int) (q:List Int×Int):Prop:=
  (B.length<6∧q=([],2))∨(6≤B.length∧¬Hd (B.getD 0 0) (B.getD 1 0)∧q=([],4))∨(6≤B.length∧Hd (B.getD 0 0) (B.getD 1 0)∧∃r,iU (B.drop 2) mo r∧q=fin (B.drop 2) r)
def cA{B:List Int}(h:aq B)(n:Nat):aq (B.drop n):=fun x hx=>h x (List.mem_of_mem_drop hx)
def nb.ex{B:List Int}(hB:aq B)(mo:Int):∃q,nb B mo q:=by
  rcases Nat.lt_or_ge B.length 6 with h|h
  · exact⟨_,.inl ⟨h,rfl⟩⟩
  · by_cases k:Hd (B.getD 0 0) (B.getD 1 0)
    · obtain⟨r,hr⟩:=iU.ex (cA hB 2) mo
      exact⟨_,.inr (.inr ⟨h,k,r,hr,rfl⟩)⟩
    · exact⟨_,.inr (.inl ⟨h,k,rfl⟩)⟩
def UP{B:List Int}{mo:Int}(hB:aq B){q:List Int×Int×Int}(h:iU B mo q):aq q.1∧0≤q.2.1∧q.2.1≤B.length∧(q.1=[]∨(q.1.length:Int)≤mo):=by
  rcases h with⟨_,rfl⟩|⟨h0,o,ho,rfl⟩
  · exact⟨fun x hx=>by(cases hx),by decide,by simp,.inl rfl⟩
  · cases o with
    |error e=>exact⟨fun x hx=>by(cases hx),by simp[Ou],by simp[Ou],.inl rfl⟩
    |ok p=>
      obtain⟨x,n⟩:=p
      obtain⟨h1,h2,h3⟩:=IY hB ho (mN omg) x n rfl
      exact⟨h3,by simp[Ou],by simp only[Ou];omega,.inr h1⟩
end Go.aC
namespace Go.aC
open Go.ag Go.ab Go.aN
def Yy{a b:Int}(h:¬Hd a b):¬a%16=8∨(a%16=8∧¬a/16≤7)∨(a%16=8∧a/16≤7∧¬(a*256+b)%31=0)∨(a%16=8∧a/16≤7∧(a*256+b)%31=0∧¬32*(b/32%2)=0):=by
  unfold Hd at h;omega
def nb.ways{B:List Int}{mo:Int}{q:List Int×Int}(hB:aq B)(hm:mo<500000000)(h:nb B mo q):
    (B.length<6∧q=([],2))∨(6≤B.length∧¬Hd (B.getD 0 0) (B.getD 1 0)∧q=([],4))∨
    (∃e,6≤B.length∧Hd (B.getD 0 0) (B.getD 1 0)∧iU (B.drop 2) mo ([],((0:Nat):Int),e)∧¬e=0∧q=([],e))∨
    (∃(x:List Int) (n:Nat),6≤B.length∧Hd (B.getD 0 0) (B.getD 1 0)∧iU (B.drop 2) mo (x,(n:Int),0)∧aq x∧x.length<500000000∧n≤B.length-2∧B.length-(2+n)<4∧q=([],2))∨
    (∃(x:List Int) (n:Nat),6≤B.length∧Hd (B.getD 0 0) (B.getD 1 0)∧iU (B.drop 2) mo (x,(n:Int),0)∧aq x∧x.length<500000000∧n≤B.length-2∧4<B.length-(2+n)∧q=([],4))∨
    (∃(x:List Int) (n:Nat),6≤B.length∧Hd (B.getD 0 0) (B.getD 1 0)∧iU (B.drop 2) mo (x,(n:Int),0)∧aq x∧x.length<500000000∧n≤B.length-2∧B.length-(2+n)=4∧¬B.drop (2+n)=kh x∧q=([],5))∨
    (∃(x:List Int) (n:Nat),6≤B.length∧Hd (B.getD 0 0) (B.getD 1 0)∧iU (B.drop 2) mo (x,(n:Int),0)∧aq x∧x.length<500000000∧n≤B.length-2∧B.length-(2+n)=4∧B.drop (2+n)=kh x∧q=(x,0)):=by
  rcases h with h|h|⟨h6,hh,⟨x,n,e⟩,hr,hq⟩
  · exact .inl h
  · exact .inr (.inl h)
  · obtain⟨i1,i2,i3,i4⟩:=UP (cA hB 2) hr
    simp only[List.length_drop] at i1 i2 i3 i4
    have hxl:x.length<500000000:=by
      rcases i4 with h|h
      · rw[h];decide
      · omega
    have hez:¬e=0→x=[]∧n=0:=fun he=>by
      rcases hr with⟨_,h⟩|⟨_,o,_,h⟩
      · cases h;exact⟨rfl,rfl⟩
      · cases o
        · cases h;exact⟨rfl,rfl⟩
        · cases h;exact absurd rfl he
    obtain⟨k,rfl⟩:∃k:Nat,n=(k:Int):=⟨n.toNat,omg⟩
    unfold fin at hq
    simp only[List.length_drop,List.drop_drop,Int.toNat_natCast] at hq
    split at hq
    · rename_i h1
      obtain⟨rfl,h2⟩:=hez h1
      obtain rfl:k=0:=omg
      exact .inr (.inr (.inl ⟨_,h6,hh,hr,h1,hq⟩))
    · rename_i h1
      obtain rfl:e=0:=omg
      split at hq
      · rename_i h2;exact .inr (.inr (.inr (.inl ⟨_,_,h6,hh,hr,i1,hxl,omg,omg,hq⟩)))
      · split at hq
        · rename_i h2 h3;exact .inr (.inr (.inr (.inr (.inl ⟨_,_,h6,hh,hr,i1,hxl,omg,omg,hq⟩))))
        · split at hq
          · rename_i h2 h3 h4;exact .inr (.inr (.inr (.inr (.inr (.inr ⟨_,_,h6,hh,hr,i1,hxl,omg,omg,h4,hq⟩)))))
          · rename_i h2 h3 h4;exact .inr (.inr (.inr (.inr (.inr (.inl ⟨_,_,h6,hh,hr,i1,hxl,omg,omg,h4,hq⟩)))))
def nb.SL{B:List Int}{mo:Int}{q:List Int×Int}(hB:aq B)(hm:mo<500000000)(h:nb B mo q):
    (B.length<6∧q=([],2))∨(6≤B.length∧¬Hd (B.getD 0 0) (B.getD 1 0)∧q=([],4))∨
    (∃(x:List Int) (n:Nat) (e:Int),6≤B.length∧Hd (B.getD 0 0) (B.getD 1 0)∧iU (B.drop 2) mo (x,(n:Int),e)∧aq x∧x.length<500000000∧n≤B.length-2∧
      ((¬e=0∧q=([],e))∨(e=0∧B.length-(2+n)<4∧q=([],2))∨(e=0∧4<B.length-(2+n)∧q=([],4))∨(e=0∧B.length-(2+n)=4∧¬B.drop (2+n)=kh x∧q=([],5))∨(e=0∧B.length-(2+n)=4∧B.drop (2+n)=kh x∧q=(x,0)))):=by
  rcases h.ways hB hm with h|h|⟨e,a,b,c,d,r⟩|⟨x,n,a,b,c,d,f,g,r⟩|⟨x,n,a,b,c,d,f,g,r⟩|⟨x,n,a,b,c,d,f,g,r⟩|⟨x,n,a,b,c,d,f,g,r⟩
  · exact .inl h
  · exact .inr (.inl h)
  · exact .inr (.inr ⟨[],0,e,a,b,c,fun x hx=>(by cases hx),by decide,omg,.inl ⟨d,r⟩⟩)
  · exact .inr (.inr ⟨x,n,0,a,b,c,d,f,g,.inr (.inl ⟨rfl,r⟩)⟩)
  · exact .inr (.inr ⟨x,n,0,a,b,c,d,f,g,.inr (.inr (.inl ⟨rfl,r⟩))⟩)
  · exact .inr (.inr ⟨x,n,0,a,b,c,d,f,g,.inr (.inr (.inr (.inl ⟨rfl,r⟩)))⟩)
  · exact .inr (.inr ⟨x,n,0,a,b,c,d,f,g,.inr (.inr (.inr (.inr ⟨rfl,r⟩)))⟩)
def aT{l:List Int}(h:aq l):∀x∈l,0≤x∧x<256:=h
def zS (B:List Int):List Int:=[120,1]++qx B++kh B
def vn{a:Int}{l:List Int}(h:0≤a∧a<256)(k:aq l):aq (a::l):=fun x hx=>by
  rcases List.mem_cons.1 hx with rfl|hx
  · exact h
  · exact k x hx
def Yn:Hd 120 1:=by unfold Hd;decide
end Go.aC
namespace Go.aa
open Go.ag
def eg (a b:Int):Int:=((a.toNat^^^b.toNat:Nat):Int)
def sE {a b : Int} {n : Nat} (ha : 0 ≤ a ∧ a < 2 ^ n) (hb : 0 ≤ b ∧ b < 2 ^ n) : 0 ≤ eg a b ∧ eg a b < 2 ^ n := by
  have h1 : a.toNat < 2 ^ n := by have : ((a.toNat : Nat) : Int) < ((2 ^ n : Nat) : Int) := by push_cast; omega
                                  omega
  have h2 : b.toNat < 2 ^ n := by have : ((b.toNat : Nat) : Int) < ((2 ^ n : Nat) : Int) := by push_cast; omega
                                  omega
  have h:=Nat.xor_lt_two_pow h1 h2
  refine⟨Int.natCast_nonneg _,?_⟩
  have:((a.toNat^^^b.toNat:Nat):Int)<((2^n:Nat):Int):=omg
  simpa[eg] using this
def zG{a b:Int}(ha:0≤a∧a<4294967296)(hb:0≤b∧b<4294967296):IntKind.u32.wrap ((BitVec.ofInt IntKind.u32.bits a^^^BitVec.ofInt IntKind.u32.bits b).toNat:Int)=eg a b:=by
  obtain⟨x,rfl⟩:∃x:Nat,a=(x:Int):=⟨a.toNat,omg⟩
  obtain⟨y,rfl⟩:∃y:Nat,b=(y:Int):=⟨b.toNat,omg⟩
  have e:IntKind.u32.bits=32:=rfl
  have h:=sE (n:=32) ha hb
  rw[e,BitVec.toNat_xor,dU,dU,Nat.mod_eq_of_lt omg,Nat.mod_eq_of_lt omg]
  simp only[eg,Int.toNat_natCast] at h ⊢
  exact aC.wrap32 h.1 (by have:=h.2;omega)
def acC{a b:Int}(ha:0≤a∧a<256)(hb:0≤b∧b<256):IntKind.u8.wrap ((BitVec.ofInt IntKind.u8.bits a^^^BitVec.ofInt IntKind.u8.bits b).toNat:Int)=eg a b:=by
  obtain⟨x,rfl⟩:∃x:Nat,a=(x:Int):=⟨a.toNat,omg⟩
  obtain⟨y,rfl⟩:∃y:Nat,b=(y:Int):=⟨b.toNat,omg⟩
  have e:IntKind.u8.bits=8:=rfl
  have h:=sE (n:=8) ha hb
  rw[e,BitVec.toNat_xor,dU,dU,Nat.mod_eq_of_lt omg,Nat.mod_eq_of_lt omg]
  simp only[eg,Int.toNat_natCast] at h ⊢
  exact Sl.Ge h.1 (by have:=h.2;omega)
def F9{a:Int}(ha:0≤a∧a<4294967296):IntKind.u32.wrap ((BitVec.ofInt IntKind.u32.bits 4294967295^^^BitVec.ofInt IntKind.u32.bits a).toNat:Int)=4294967295-a:=by
  obtain⟨x,rfl⟩:∃x:Nat,a=(x:Int):=⟨a.toNat,omg⟩
  have e:IntKind.u32.bits=32:=rfl
  have e1:BitVec.ofInt 32 4294967295=BitVec.allOnes 32:=by decide
  rw[e,e1,BitVec.xor_comm,BitVec.xor_allOnes,BitVec.toNat_not,dU,Nat.mod_eq_of_lt omg,aC.wrap32 omg omg]
  omega
def tn (x:Nat):Nat:=if x%2=1 then(x/2)^^^3988292384 else x/2
def lj:Nat→Nat→Nat
  |0,x=>x
  |k+1,x=>tn (lj k x)
def Kj(a b:Nat):(a^^^b)%2=(a%2+b%2)%2:=by
  have h:=Nat.testBit_xor a b 0
  simp only[Nat.testBit_zero] at h
  have ha:a%2=0∨a%2=1:=omg
  have hb:b%2=0∨b%2=1:=omg
  have hc:(a^^^b)%2=0∨(a^^^b)%2=1:=omg
  rcases ha with ha|ha<;>rcases hb with hb|hb<;>rcases hc with hc|hc<;>rw[ha,hb,hc] at h<;>first|omega|(exfalso;revert h;decide)
def KU(a b:Nat):(a^^^b)/2=(a/2)^^^(b/2):=by
  refine Nat.eq_of_testBit_eq fun i=>?_
  simp only[Nat.testBit_div_two,Nat.testBit_xor]
def TJ(a b:Nat):tn (a^^^b)=tn a^^^tn b:=by
  have h2:=Kj a b
  have ha:a%2=0∨a%2=1:=omg
  have hb:b%2=0∨b%2=1:=omg
  unfold tn
  rw[KU]
  rcases ha with ha|ha<;>rcases hb with hb|hb<;>rw[h2,ha,hb]
  · simp
  · simp[Nat.xor_assoc]
  · simp only[Nat.reduceAdd,Nat.reduceMod,if_pos,if_neg,Nat.zero_ne_one,not_false_eq_true]
    rw[Nat.xor_assoc,Nat.xor_comm (b/2),←Nat.xor_assoc]
  · simp only[Nat.reduceAdd,Nat.reduceMod,if_pos,Nat.zero_ne_one,if_false]
    rw[Nat.xor_assoc,Nat.xor_comm 3988292384,Nat.xor_assoc,Nat.xor_self,Nat.xor_zero]
def VB(k a b:Nat):lj k (a^^^b)=lj k a^^^lj k b:=by
  induction k with
  |zero=>rfl
  |succ k ih=>simp only[lj,ih,TJ]
def OJ(a:Nat):tn (2*a)=a:=by unfold tn;rw[if_neg omg];omega
def YD(h:Nat):lj 8 (256*h)=h:=by
  have e:∀k m:Nat,lj k (2^k*m)=m:=by
    intro k
    induction k with
    |zero=>intro m;simp[lj]
    |succ k ih=>intro m;rw[lj,Nat.pow_succ,Nat.mul_assoc,ih,OJ]
  exact e 8 h
def LA(s:Nat):s=(256*(s/256))^^^(s%256):=by
  have h:=Nat.two_pow_add_eq_or_of_lt (i:=8) (b:=s%256) omg (s/256)
  have h2:(2^8*(s/256))^^^(s%256)=(2^8*(s/256))|||(s%256):=by
    refine Nat.eq_of_testBit_eq fun i=>?_
    rw[Nat.testBit_xor,Nat.testBit_or]
    rcases Nat.lt_or_ge i 8 with hi|hi
    · rw[Nat.testBit_two_pow_mul,decide_eq_false omg];simp
    · have:(s%256).testBit i=false:=Nat.testBit_lt_two_pow (Nat.lt_of_lt_of_le (by omega:s%256<2^8) (Nat.pow_le_pow_right dec hi))
      rw[this];simp
  have e:2^8*(s/256)=256*(s/256):=omg
  rw[e] at h h2
  omega
def Ht(s c:Nat)(hc:c<256):lj 8 (s^^^c)=lj 8 ((s%256)^^^c)^^^(s/256):=by
  conv=>lhs;rw[LA s]
  rw[Nat.xor_assoc,VB,YD,Nat.xor_comm]
end Go.aa
namespace Go.aa
open Go.ag
def YF{x:Nat}(h:x<4294967296):tn x<4294967296:=by
  unfold tn
  split
  · exact Nat.xor_lt_two_pow (n:=32) omg dec
  · omega
def E7{x:Nat}(h:x<4294967296):∀k,lj k x<4294967296
  |0=>h
  |k+1=>YF (E7 h k)
def gN (x:Int):Int:=((lj 8 x.toNat:Nat):Int)
def C5{x:Int}(h:0≤x∧x<4294967296):0≤gN x∧gN x<4294967296:=by
  have:=E7 (x:=x.toNat) omg 8
  unfold gN;omega
def Hy{s c:Int}(hs:0≤s)(hc:0≤c∧c<256):gN (eg s c)=eg (gN (eg (s%256) c)) (s/256):=by
  obtain⟨a,rfl⟩:∃a:Nat,s=(a:Int):=⟨s.toNat,omg⟩
  obtain⟨b,rfl⟩:∃b:Nat,c=(b:Int):=⟨c.toNat,omg⟩
  have e1:((a:Int)%256).toNat=a%256:=omg
  have e2:((a:Int)/256).toNat=a/256:=omg
  simp only[gN,eg,Int.toNat_natCast,e1,e2]
  rw[Ht a b omg]
def gu (s:Int) (l:List Int):Int:=l.foldl (fun s c=>gN (eg s c)) s
def qy:∀ {l:List Int} {s:Int},aq l→0≤s∧s<4294967296→0≤gu s l∧gu s l<4294967296
  |[],s,_,h=>h
  |c::l,s,hl,h=>by
    have hc:=hl c (by simp)
    exact qy (l:=l) (fun x hx=>hl x (by simp[hx])) (C5 (by have:=sE (n:=32) (a:=s) (b:=c) omg omg;omega))
def Av{l:List Int}{s:Int}{i:Nat}(h:i<l.length):gu s (l.take (i+1))=gN (eg (gu s (l.take i)) (l.getD i 0)):=by
  rw[ab.kN h];simp[gu]
def sQ (s:Int) (l:List Int):Int:=4294967295-gu (4294967295-s) l
def wK{s:Int}{l:List Int}(hs:0≤s∧s<4294967296)(hl:aq l):0≤sQ s l∧sQ s l<4294967296:=by
  have:=qy (l:=l) (s:=4294967295-s) hl omg
  unfold sQ;omega
structure Ch where
  k:List Int
  d:List Int
def gQ (k d:List Int):Int:=sQ (sQ 0 k) d
def kv (c:Int):Prop:=(97≤c∧c≤122)∨(65≤c∧c≤90)
instance (c:Int):Decidable (kv c):=by unfold kv;infer_instance
def dp (k:List Int):Prop:=k.length=4∧∀c∈k,kv c
instance (k:List Int):Decidable (dp k):=by unfold dp;infer_instance
def bM:List Int:=[73,72,68,82]
def aR:List Int:=[80,76,84,69]
def ba:List Int:=[116,82,78,83]
def aW:List Int:=[73,68,65,84]
def aY:List Int:=[73,69,78,68]
def fx:List Int:=[137,80,78,71,13,10,26,10]
def first(L:List Int):Except Int Ch:=
  if L.length<12 then .error 2
  else if 2147483647<aC.bN L∨¬dp ((L.drop 4).take 4) then .error 4
  else if(L.length:Int)-12<aC.bN L then .error 2
  else if aC.bN (L.drop (8+(aC.bN L).toNat))=gQ ((L.drop 4).take 4) ((L.drop 8).take (aC.bN L).toNat) then .ok ⟨(L.drop 4).take 4,(L.drop 8).take (aC.bN L).toNat⟩
  else .error 5
def qf{L:List Int}(h:aq L):0≤aC.bN L∧aC.bN L<4294967296:=by
  have h0:=h.get 0;have h1:=h.get 1;have h2:=h.get 2;have h3:=h.get 3
  unfold aC.bN;omega
def Wh{L:List Int}(hL:aq L):(L.length<12∧first L=.error 2)∨∃n:Nat,12≤L.length∧aC.bN L=(n:Int)∧n<4294967296∧
    ((2147483647<n∧first L=.error 4)∨(n≤2147483647∧¬dp ((L.drop 4).take 4)∧first L=.error 4)∨(n≤2147483647∧dp ((L.drop 4).take 4)∧L.length<12+n∧first L=.error 2)∨
     (12+n≤L.length∧dp ((L.drop 4).take 4)∧aC.bN (L.drop (8+n))=gQ ((L.drop 4).take 4) ((L.drop 8).take n)∧first L=.ok ⟨(L.drop 4).take 4,(L.drop 8).take n⟩∧n≤2147483647)∨
     (12+n≤L.length∧dp ((L.drop 4).take 4)∧¬aC.bN (L.drop (8+n))=gQ ((L.drop 4).take 4) ((L.drop 8).take n)∧first L=.error 5∧n≤2147483647)):=by
  rcases Nat.lt_or_ge L.length 12 with h|h
  · exact .inl ⟨h,by unfold first;rw[if_pos h]⟩
  · right
    have hn:=qf hL
    obtain⟨n,e⟩:∃n:Nat,aC.bN L=(n:Int):=⟨(aC.bN L).toNat,omg⟩
    refine⟨n,h,e,omg,?_⟩
    unfold first
    rw[if_neg omg,e,Int.toNat_natCast]
    by_cases h1:2147483647<n
    · exact .inl ⟨h1,by rw[if_pos (.inl omg)]⟩
    · by_cases h2:dp ((L.drop 4).take 4)
      · rw[if_neg (by rintro(h|h);omega;exact h h2)]
        by_cases h3:L.length<12+n
        · exact .inr (.inr (.inl ⟨omg,h2,h3,by rw[if_pos omg]⟩))
        · rw[if_neg omg]
          by_cases h4:aC.bN (L.drop (8+n))=gQ ((L.drop 4).take 4) ((L.drop 8).take n)
          · exact .inr (.inr (.inr (.inl ⟨omg,h2,h4,by rw[if_pos h4],omg⟩)))
          · exact .inr (.inr (.inr (.inr ⟨omg,h2,h4,by rw[if_neg h4],omg⟩)))
      · exact .inr (.inl ⟨omg,h2,by rw[if_pos (.inr h2)]⟩)
def gi:Nat→List Int→List Ch→Except Int (List Ch)
  |0,_,_=>.error 2
  |f+1,L,l=>match first L with
    |.error e=>.error e
    |.ok c=>if c.k=aY then(if L.length-(12+c.d.length)=0 then .ok (l++[c]) else .error 4) else gi f (L.drop (12+c.d.length)) (l++[c])
def cut (B:List Int):Except Int (List Ch):=
  if 262144<B.length then .error 3 else if B.length<8 then .error 2 else if B.take 8=fx then gi (B.length+1) (B.drop 8) [] else .error 4
structure Wk where
  plte:Bool
  trns:Bool
  bS:Bool
  lC:Bool
def gS (k:List Int):Prop:=dp k∧k.getD 0 0≤90
instance (k:List Int):Decidable (gS k):=by unfold gS;infer_instance
def cV (w:Wk) (c:Ch):Wk×Bool:=
  if c.k=aW then(⟨w.plte,w.trns,true,w.lC⟩, !w.lC)
  else if c.k=aR then(if w.trns then(⟨w.plte,w.trns,w.bS,w.bS⟩,false) else(⟨true,w.trns,w.bS,w.bS⟩, !w.plte&& !w.bS))
  else if c.k=ba then(⟨w.plte,true,w.bS,w.bS⟩, !w.trns&& !w.bS)
  else(⟨w.plte,w.trns,w.bS,w.bS⟩,decide (dp c.k)&& !decide (gS c.k))
def walk:List Ch→Wk→Option Wk
  |[],w=>some w
  |c::l,w=>if(cV w c).2 then walk l (cV w c).1 else none
def dH (l:List Ch):Bool:=
  decide (3≤l.length)&&(l.map Ch.k).getD 0 []==bM&&(l.map (·.d.length)).getD 0 0==13&&(l.map Ch.k).getD (l.length-1) []==aY&&(l.map (·.d.length)).getD (l.length-1) 0==0&&
    (match walk ((l.drop 1).take (l.length-2)) ⟨false,false,false,false⟩ with|some w=>w.bS|none=>false)
end Go.aa
namespace Go.aa
open Go.ag
structure Od where
 eE:Nat
 ends:Nat
 eX:Nat
 dT:Nat
 cG:Nat
def bE (n i:Nat) (prev:List Int) (c:Ch) (s:Od):Option Od:=
 if c.k=bM then(if 0<i∨c.d.length≠13 then none else some {s with eE:=s.eE+1})
 else if c.k=aY then(if i+1<n∨0<c.d.length then none else some {s with ends:=s.ends+1})
 else if c.k=aW then(if 0<s.cG∧prev≠aW then none else some {s with cG:=s.cG+1})
 else if c.k=aR then(if 0<s.cG∨0<s.dT then none else some {s with eX:=s.eX+1})
 else if c.k=ba then(if 0<s.cG then none else some {s with dT:=s.dT+1})
 else if¬dp c.k∨gS c.k then none else some s
def lD (s:Od):Bool:=decide (s.eE=1)&&decide (s.ends=1)&&decide (1≤s.cG)&&decide (s.eX≤1)&&decide (s.dT≤1)
def jK (n:Nat):Nat→List Int→List Ch→Od→Bool
 |_,_,[],s=>lD s
 |i,prev,c::l,s=>match bE n i prev c s with|none=>false|some s2=>jK n (i+1) c.k l s2
def Li{n i:Nat}{prev:List Int}{c:Ch}{s s2:Od}(h:bE n i prev c s=some s2):s.eX≤s2.eX∧s.dT≤s2.dT∧s.eE≤s2.eE∧(0<i→s2.eE=s.eE):=by
 unfold bE at h
 split at h
 ·split at h
  ·cases h
  ·rename_i h1 h2;cases h;exact⟨Nat.le_refl _,Nat.le_refl _,by simp,fun h=>absurd (.inl h) h2⟩
 ·split at h
  ·split at h<;>cases h;simp
  ·split at h
   ·split at h<;>cases h;simp
   ·split at h
    ·split at h<;>cases h;simp
    ·split at h
     ·split at h<;>cases h;simp
     ·split at h<;>cases h;simp
def xp{n:Nat}:∀ {l:List Ch} {i:Nat} {prev:List Int} {s:Od},(1<s.eX∨1<s.dT∨(0<i∧s.eE=0))→jK n i prev l s=false
 |[],i,prev,s,h=>by
  unfold jK lD
  rcases h with h|h|h
  ·rw[decide_eq_false (p:=s.eX≤1) omg];simp
  ·rw[decide_eq_false (p:=s.dT≤1) omg];simp
  ·rw[decide_eq_false (p:=s.eE=1) omg];simp
 |c::l,i,prev,s,h=>by
  unfold jK
  split
  ·rfl
  ·rename_i s2 h2
   have g:=Li h2
   refine xp ?_
   rcases h with h|h|h
   ·exact .inl omg
   ·exact .inr (.inl omg)
   ·exact .inr (.inr ⟨omg,by rw[g.2.2.2 h.1];exact h.2⟩)
def sR (l:List Ch) (w:Wk):Bool:=
 (match walk (l.take (l.length-1)) w with|some w=>w.bS|none=>false)&&(l.map Ch.k).getD (l.length-1) []==aY&&(l.map (·.d.length)).getD (l.length-1) 0==0
structure Wi (prev:List Int) (s:Od) (w:Wk):Prop where
 eE:s.eE=1
 ends:s.ends=0
 plte:w.plte=decide (0<s.eX)
 trns:w.trns=decide (0<s.dT)
 bS:w.bS=decide (0<s.cG)
 lC:w.lC=decide (0<s.cG∧prev≠aW)
 one:s.eX≤1∧s.dT≤1
def IJ{k:List Int}(h:k=bM∨k=aY):dp k∧gS k:=by
 rcases h with rfl|rfl<;>decide
def Jj{c c2:Ch}{l:List Ch}{w:Wk}:sR (c::c2::l) w=(if(cV w c).2 then sR (c2::l) (cV w c).1 else false):=by
 unfold sR
 have e:(c::c2::l).take ((c::c2::l).length-1)=c::(c2::l).take ((c2::l).length-1):=by simp
 have e4:((c::c2::l).map Ch.k).getD ((c::c2::l).length-1) []=((c2::l).map Ch.k).getD ((c2::l).length-1) []:=rfl
 have e5:((c::c2::l).map (·.d.length)).getD ((c::c2::l).length-1) 0=((c2::l).map (·.d.length)).getD ((c2::l).length-1) 0:=rfl
 rw[e,e4,e5,walk]
 cases h:(cV w c).2
 ·simp only[Bool.false_eq_true,if_false,Bool.false_and]
 ·simp only[if_true]
def OE{n i:Nat}{prev:List Int}{c:Ch}{s:Od}{w:Wk}(hi:0<i)(hn:i+1=n)(h:Wi prev s w):jK n i prev [c] s=sR [c] w:=by
 have hp:=h.one
 have e:sR [c] w=(w.bS&&(c.k==aY)&&(c.d.length==0)):=by simp[sR,walk]
 rw[e,h.bS]
 unfold jK bE
 by_cases h1:c.k=bM
 ·rw[if_pos h1,if_pos (.inl hi)]
  have:(c.k==aY)=false:=by rw[h1];decide
  simp[this]
 ·rw[if_neg h1]
  by_cases h2:c.k=aY
  ·rw[if_pos h2]
   by_cases h3:0<c.d.length
   ·rw[if_pos (.inr h3)]
    have:(c.d.length==0)=false:=by simp;intro h;rw[h] at h3;simp at h3
    rw[this];simp
   ·rw[if_neg (by rintro(h|h);omega;exact h3 h)]
    simp only[jK,lD,h.eE,h.ends]
    have e1:(c.k==aY)=true:=by rw[h2];decide
    have e2:(c.d.length==0)=true:=by simp;exact List.length_eq_zero_iff.1 omg
    rw[e1,e2,decide_eq_true hp.1,decide_eq_true hp.2]
    simp
    omega
  ·have e1:(c.k==aY)=false:=by simpa using h2
   rw[if_neg h2,e1]
   simp only[Bool.and_false,Bool.false_and]
   split
   ·rfl
   ·rename_i s2 hs
    have he:s2.ends=0:=by
     have hend:=h.ends
     split at hs
     ·split at hs<;>cases hs;exact hend
     ·split at hs
      ·split at hs<;>cases hs;exact hend
      ·split at hs
       ·split at hs<;>cases hs;exact hend
       ·split at hs<;>cases hs;exact hend
    simp[jK,lD,he]
def tB{n:Nat}:∀ {l:List Ch} {i:Nat} {prev:List Int} {s:Od} {w:Wk},l≠[]→0<i→i+l.length=n→Wi prev s w→jK n i prev l s=sR l w
 |[],i,prev,s,w,h,_,_,_=>absurd rfl h
 |[c],i,prev,s,w,_,hi,hn,h=>OE hi (by simpa using hn) h
 |c::c2::l,i,prev,s,w,_,hi,hn,h=>by
  have hn2:i+1+(c2::l).length=n:=by simp only[List.length_cons] at hn ⊢;omega
  have hlt:i+1<n:=by simp only[List.length_cons] at hn;omega
  have hp:=h.one
  rw[Jj]
  rw[jK]
  by_cases h1:c.k=bM
  ·have hc:=IJ (.inl h1)
   rw[show bE n i prev c s=none by unfold bE;rw[if_pos h1,if_pos (.inl hi)]]
   have:(cV w c).2=false:=by
    unfold cV
    rw[if_neg (by rw[h1];decide),if_neg (by rw[h1];decide),if_neg (by rw[h1];decide)]
    simp[hc.1,hc.2]
   rw[this];rfl
  by_cases h2:c.k=aY
  ·have hc:=IJ (.inr h2)
   rw[show bE n i prev c s=none by unfold bE;rw[if_neg h1,if_pos h2,if_pos (.inl hlt)]]
   have:(cV w c).2=false:=by
    unfold cV
    rw[if_neg (by rw[h2];decide),if_neg (by rw[h2];decide),if_neg (by rw[h2];decide)]
    simp[hc.1,hc.2]
   rw[this];rfl
  by_cases h3:c.k=aW
  ·have e:cV w c=(⟨w.plte,w.trns,true,w.lC⟩, !w.lC):=by unfold cV;rw[if_pos h3]
   rw[e]
   by_cases h4:0<s.cG∧prev≠aW
   ·rw[show bE n i prev c s=none by unfold bE;rw[if_neg h1,if_neg h2,if_pos h3,if_pos h4]]
    rw[h.lC,decide_eq_true h4];rfl
   ·rw[show bE n i prev c s=some {s with cG:=s.cG+1} by unfold bE;rw[if_neg h1,if_neg h2,if_pos h3,if_neg h4]]
    rw[h.lC,decide_eq_false h4]
    simp only[Bool.not_false,if_true]
    refine tB (by simp) omg hn2 ⟨h.eE,h.ends,h.plte,h.trns,by simp,?_,hp⟩
    simp[h3]
  by_cases h4:c.k=aR
  ·by_cases h5:0<s.cG∨0<s.dT
   ·rw[show bE n i prev c s=none by unfold bE;rw[if_neg h1,if_neg h2,if_neg h3,if_pos h4,if_pos h5]]
    have:(cV w c).2=false:=by
     unfold cV
     rw[if_neg h3,if_pos h4,h.trns,h.bS]
     by_cases h6:0<s.dT
     ·simp[h6]
     ·have h7:0<s.cG:=omg
      simp[h6,h7]
    rw[this];rfl
   ·have h6:¬0<s.dT:=fun hh=>h5 (.inr hh)
    have h7:¬0<s.cG:=fun hh=>h5 (.inl hh)
    rw[show bE n i prev c s=some {s with eX:=s.eX+1} by unfold bE;rw[if_neg h1,if_neg h2,if_neg h3,if_pos h4,if_neg h5]]
    have e:cV w c=(⟨true,w.trns,w.bS,w.bS⟩, !w.plte&& !w.bS):=by
     unfold cV
     rw[if_neg h3,if_pos h4,h.trns]
     simp[h6]
    rw[e,h.plte,h.bS]
    by_cases h8:0<s.eX
    ·rw[show(!decide (0<s.eX)&& !decide (0<s.cG))=false by simp[h8]]
     simp only[Bool.false_eq_true,if_false]
     exact xp (.inl (by simp only;omega))
    ·rw[show(!decide (0<s.eX)&& !decide (0<s.cG))=true by simp[h8,h7]]
     simp only[if_true]
     refine tB (by simp) omg hn2 ⟨h.eE,h.ends,by simp,h.trns,by simp[h7],?_,by simp only;omega,hp.2⟩
     simp[h7]
  by_cases h5:c.k=ba
  ·have e:cV w c=(⟨w.plte,true,w.bS,w.bS⟩, !w.trns&& !w.bS):=by unfold cV;rw[if_neg h3,if_neg h4,if_pos h5]
   rw[e,h.trns,h.bS]
   by_cases h7:0<s.cG
   ·rw[show bE n i prev c s=none by unfold bE;rw[if_neg h1,if_neg h2,if_neg h3,if_neg h4,if_pos h5,if_pos h7]]
    simp[h7]
   ·rw[show bE n i prev c s=some {s with dT:=s.dT+1} by unfold bE;rw[if_neg h1,if_neg h2,if_neg h3,if_neg h4,if_pos h5,if_neg h7]]
    by_cases h8:0<s.dT
    ·rw[show(!decide (0<s.dT)&& !decide (0<s.cG))=false by simp[h8]]
     simp only[Bool.false_eq_true,if_false]
     exact xp (.inr (.inl (by simp only;omega)))
    ·rw[show(!decide (0<s.dT)&& !decide (0<s.cG))=true by simp[h8,h7]]
     simp only[if_true]
     refine tB (by simp) omg hn2 ⟨h.eE,h.ends,h.plte,by simp,by simp[h7],?_,hp.1,by simp only;omega⟩
     simp[h7]
  ·have e:cV w c=(⟨w.plte,w.trns,w.bS,w.bS⟩,decide (dp c.k)&& !decide (gS c.k)):=by unfold cV;rw[if_neg h3,if_neg h4,if_neg h5]
   rw[e]
   by_cases h6:¬dp c.k∨gS c.k
   ·rw[show bE n i prev c s=none by unfold bE;rw[if_neg h1,if_neg h2,if_neg h3,if_neg h4,if_neg h5,if_pos h6]]
    have:(decide (dp c.k)&& !decide (gS c.k))=false:=by
     rcases h6 with h|h<;>simp[h]
    simp[this]
   ·rw[show bE n i prev c s=some s by unfold bE;rw[if_neg h1,if_neg h2,if_neg h3,if_neg h4,if_neg h5,if_neg h6]]
    have:(decide (dp c.k)&& !decide (gS c.k))=true:=by
     have a:dp c.k:=Classical.byContradiction fun hh=>h6 (.inl hh)
     have b:¬gS c.k:=fun hh=>h6 (.inr hh)
     simp[a,b]
    simp only[this,if_true]
    refine tB (by simp) omg hn2 ⟨h.eE,h.ends,h.plte,h.trns,h.bS,?_,hp⟩
    rw[h.bS]
    have:c.k≠aW:=h3
    simp[this]
def ET(l:List Ch):jK l.length 0 [] l ⟨0,0,0,0,0⟩=dH l:=by
 match l with
 |[]=>rfl
 |[c]=>
  have e:dH [c]=false:=by simp[dH]
  rw[e]
  unfold jK
  split
  ·rfl
  ·rename_i s2 h
   unfold bE at h
   simp only[jK,lD]
   split at h
   ·split at h<;>cases h;simp
   ·split at h
    ·split at h<;>cases h;simp
    ·split at h
     ·split at h<;>cases h;simp
     ·split at h
      ·split at h<;>cases h;simp
      ·split at h
       ·split at h<;>cases h;simp
       ·split at h<;>cases h;simp
 |c::c2::l=>
  rw[jK]
  by_cases h1:c.k=bM
  ·by_cases h2:c.d.length=13
   ·rw[show bE (c::c2::l).length 0 [] c ⟨0,0,0,0,0⟩=some ⟨1,0,0,0,0⟩ by unfold bE;rw[if_pos h1,if_neg (by rintro(h|h);omega;exact h h2)]]
    simp only
    rw[tB (w:=⟨false,false,false,false⟩) (by simp) omg (by simp only[List.length_cons];omega) ⟨rfl,rfl,by simp,by simp,by simp,by simp,by simp,by simp⟩]
    unfold dH sR
    have e1:((c::c2::l).map Ch.k).getD 0 []=bM:=h1
    have e2:((c::c2::l).map (·.d.length)).getD 0 0=13:=h2
    have e3:((c::c2::l).drop 1).take ((c::c2::l).length-2)=(c2::l).take ((c2::l).length-1):=by simp
    have e4:((c::c2::l).map Ch.k).getD ((c::c2::l).length-1) []=((c2::l).map Ch.k).getD ((c2::l).length-1) []:=rfl
    have e5:((c::c2::l).map (·.d.length)).getD ((c::c2::l).length-1) 0=((c2::l).map (·.d.length)).getD ((c2::l).length-1) 0:=rfl
    rw[e1,e2,e3,e4,e5]
    rcases Nat.eq_zero_or_pos l.length with h0|h0
    ·have hl:l=[]:=List.length_eq_zero_iff.1 h0
     subst hl
     simp[walk]
    ·rw[decide_eq_true (p:=3≤(c::c2::l).length) (by simp only[List.length_cons];omega)]
     rw[show(bM==bM)=true by decide,show((13:Nat)==13)=true from rfl]
     have hb:∀a b m:Bool,(m&&a&&b)=(true&&true&&true&&a&&b&&m):=by decide
     exact hb _ _ _
   ·rw[show bE (c::c2::l).length 0 [] c ⟨0,0,0,0,0⟩=none by unfold bE;rw[if_pos h1,if_pos (.inr h2)]]
    have e2:((c::c2::l).map (·.d.length)).getD 0 0=c.d.length:=rfl
    have e3:(c.d.length==13)=false:=by simpa using h2
    unfold dH
    rw[e2,e3]
    simp
  ·have e1:((c::c2::l).map Ch.k).getD 0 []=c.k:=rfl
   have e3:(c.k==bM)=false:=by simpa using h1
   have e4:dH (c::c2::l)=false:=by unfold dH;rw[e1,e3];simp
   rw[e4]
   split
   ·rfl
   ·rename_i s2 h
    have hz:s2.eE=0:=by
     unfold bE at h
     rw[if_neg h1] at h
     split at h
     ·split at h<;>cases h;rfl
     ·split at h
      ·split at h<;>cases h;rfl
      ·split at h
       ·split at h<;>cases h;rfl
       ·split at h
        ·split at h<;>cases h;rfl
        ·split at h<;>cases h;rfl
    exact xp (.inr (.inr ⟨omg,hz⟩))
end Go.aa
namespace Go.aa
open Go.ag
def off (a b:Int):Int:=max (a-b) (b-a)
def sD (a b c:Int):Int:=
  if off (a+b-c) a≤off (a+b-c) b∧off (a+b-c) a≤off (a+b-c) c then a else if off (a+b-c) b≤off (a+b-c) c then b else c
def qC (kind a b c:Int):Int:=if kind=1 then a else if kind=2 then b else if kind=3 then(a+b)/2 else if kind=4 then sD a b c else 0
def gz (l:List Int) (i back:Nat):Int:=if i<back then 0 else l.getD (i-back) 0
def iY (kind:Int) (row above:List Int) (back:Nat) (out:List Int) (i:Nat):Int:=(row.getD i 0+qC kind (gz out i back) (above.getD i 0) (gz above i back))%256
def gq (kind:Int) (row above:List Int) (back:Nat):Nat→List Int
  |0=>[]
  |i+1=>gq kind row above back i++[iY kind row above back (gq kind row above back i) i]
def ee (kind:Int) (row above:List Int) (back:Nat):List Int:=gq kind row above back row.length
def jr(kind:Int)(row above:List Int)(back:Nat):∀i,(gq kind row above back i).length=i
  |0=>rfl
  |i+1=>by simp[gq,jr kind row above back i]
def qI(kind:Int)(row above:List Int)(back:Nat):(ee kind row above back).length=row.length:=jr ..
def rQ(kind:Int)(row above:List Int)(back:Nat):∀i,aq (gq kind row above back i)
  |0=>fun x hx=>by cases hx
  |i+1=>aN.aq.snoc (rQ kind row above back i) (by unfold iY;omega)
def H8{a b:List Int}{i back:Nat}(ha:a.length=i)(hb:0<back):gz (a++b) i back=gz a i back:=by
  unfold gz
  split
  · rfl
  · rw[List.getD_eq_getElem?_getD,List.getD_eq_getElem?_getD,List.getElem?_append_left omg]
def zR{l:List Int}(h:aq l)(i back:Nat):0≤gz l i back∧gz l i back<256:=by
  unfold gz
  split
  · decide
  · exact h.get _
structure Ps where
  x:Int
  y:Int
  dx:Int
  dy:Int
  w:Int
  h:Int
def many (frm step end_:Int):Int:=if end_≤frm then 0 else(end_-frm+step-1)/step
def pK (x y dx dy w h:Int):Ps:=⟨x,y,dx,dy,many x dx w,many y dy h⟩
def jb (w h:Int):List Ps:=[pK 0 0 8 8 w h,pK 4 0 8 8 w h,pK 0 4 4 8 w h,pK 2 0 4 4 w h,pK 0 2 2 4 w h,pK 1 0 2 2 w h,pK 0 1 1 2 w h]
def fq (w h:Int):List Ps:=(jb w h).filter fun p=>decide (0<p.w)&&decide (0<p.h)
def whole (w h:Int):List Ps:=[⟨0,0,1,1,w,h⟩]
def bD (w h:Int):Int:=if w<1∨h<1 then 1 else if 256<w∨256<h∨16384/h<w then 6 else 0
def eC (w bits:Int):Int:=(w*bits+7)/8
def eJ (l:List Ps) (bits:Int):Int:=(l.map fun p=>if 0<p.w then p.h*(1+eC p.w bits) else 0).sum
structure Hd where
  w:Int
  h:Int
  dep:Int
  ak:Int
  aV:Bool
def parts (c:Int):Int:=if c=0∨c=3 then 1 else if c=2 then 3 else if c=4 then 2 else if c=6 then 4 else 0
def deep (c d:Int):Prop:=(c=0∧(d=1∨d=2∨d=4∨d=8∨d=16))∨(c=3∧(d=1∨d=2∨d=4∨d=8))∨((c=2∨c=4∨c=6)∧(d=8∨d=16))
instance (c d:Int):Decidable (deep c d):=by unfold deep;infer_instance
def aH (B:List Int):Hd:=⟨aC.bN B,aC.bN (B.drop 4),B.getD 8 0,B.getD 9 0,decide (B.getD 12 0=1)⟩
def eH (B:List Int):Int:=
  if B.length≠13 then 4
  else if¬deep (aH B).ak (aH B).dep∨0<B.getD 10 0+B.getD 11 0∨1<B.getD 12 0∨(aH B).w=0∨(aH B).h=0 then 4
  else if bD (aH B).w (aH B).h=0 then 0 else 6
def gn (B:List Int) (i:Nat):Int:=B.getD (i/8) 0/2^(7-i%8)%2
def cL (B:List Int) (at_:Nat):Nat→Int
  |0=>0
  |n+1=>2*cL B at_ n+gn B (at_+n)
structure Fl where
  hd:Hd
  plte:List Int
  trns:List Int
def bY (l:List Ch) (k:List Int):List Int:=match l.find? (fun c=>c.k==k) with|some c=>c.d|none=>[]
def eM (l:List Ch) (k:List Int):Bool:=l.any fun c=>c.k==k
def bS (l:List Ch):List Int:=(l.filter fun c=>c.k==aW).flatMap (·.d)
def oF (h:Hd) (plte:List Int) (has:Bool) (trns:List Int) (is:Bool):Prop:=
  (if has then¬(h.ak=0∨h.ak=4)∧(h.ak=3→(plte.length:Int)/3≤2^h.dep.toNat)∧plte.length%3=0∧0<plte.length∧plte.length/3≤256 else h.ak≠3)∧
  (is=true→(h.ak=3∧trns.length≤plte.length/3)∨(h.ak=0∧trns.length=2)∨(h.ak=2∧trns.length=6))
instance (h:Hd) (plte:List Int) (has:Bool) (trns:List Int) (is:Bool):Decidable (oF h plte has trns is):=by unfold oF;infer_instance
def aM (h:Hd) (row:List Int) (x:Nat):List Int:=(List.range (parts h.ak).toNat).map fun i=>cL row (x*(parts h.ak).toNat*h.dep.toNat+i*h.dep.toNat) h.dep.toNat
def Vg (h:Hd) (v:Int):Int:=v*(65535/(2^h.dep.toNat-1))
def bd (h:Hd) (trns:List Int):List Int:=if h.ak=0∨h.ak=2 then(List.range (trns.length/2)).map fun i=>(trns.getD (2*i) 0*256+trns.getD (2*i+1) 0)%2^h.dep.toNat else []
def gB (f:Fl) (v:List Int):Option (List Int):=
  if f.hd.ak=3 then
    (if(f.plte.length/3:Nat)≤(v.getD 0 0).toNat then none
     else some [f.plte.getD (3*(v.getD 0 0).toNat) 0*257,f.plte.getD (3*(v.getD 0 0).toNat+1) 0*257,f.plte.getD (3*(v.getD 0 0).toNat+2) 0*257,if(v.getD 0 0).toNat<f.trns.length then f.trns.getD (v.getD 0 0).toNat 0*257 else 65535])
  else
    let u:=v.map (Vg f.hd)
    let a:=if 0<(bd f.hd f.trns).length∧v=bd f.hd f.trns then 0 else if f.hd.ak=4∨f.hd.ak=6 then u.getD (u.length-1) 0 else 65535
    if f.hd.ak=0∨f.hd.ak=4 then some [u.getD 0 0,u.getD 0 0,u.getD 0 0,a] else some [u.getD 0 0,u.getD 1 0,u.getD 2 0,a]
def ko (w:Int) (cN:List Int) (x y:Int) (c:List Int):List Int:=cN.take (4*(y*w+x)).toNat++c++cN.drop ((4*(y*w+x)).toNat+4)
def fP (f:Fl) (p:Ps) (y:Int) (row:List Int):Nat→Nat→List Int→Option (List Int)
  |0,_,cN=>some cN
  |k+1,i,cN=>match gB f (aM f.hd row i) with
    |none=>none
    |some c=>fP f p y row k (i+1) (ko f.hd.w cN (p.x+i*p.dx) (p.y+y*p.dy) c)
def ez (f:Fl) (D:List Int) (n back:Nat) (p:Ps):Nat→Nat→Nat→List Int→List Int→Option (Nat×List Int)
  |0,_,at_,_,cN=>some (at_,cN)
  |k+1,y,at_,above,cN=>
    if 4<D.getD at_ 0 then none
    else match fP f p y (ee (D.getD at_ 0) ((D.drop (at_+1)).take n) above back) p.w.toNat 0 cN with
    |none=>none
    |some pix2=>ez f D n back p k (y+1) (at_+1+n) (ee (D.getD at_ 0) ((D.drop (at_+1)).take n) above back) pix2
def bitsOf (h:Hd):Int:=parts h.ak*h.dep
def fy (f:Fl) (D:List Int):List Ps→Nat→List Int→Option (List Int)
  |[],_,cN=>some cN
  |p::l,at_,cN=>match ez f D (eC p.w (bitsOf f.hd)).toNat (max 1 (bitsOf f.hd/8)).toNat p p.h.toNat 0 at_ [] cN with
    |none=>none
    |some (at2,pix2)=>fy f D l at2 pix2
def aD (h:Hd):List Ps:=if h.aV then fq h.w h.h else whole h.w h.h
structure r5 where
  w:Int
  h:Int
  cN:List Int
def eN:r5:=⟨0,0,[]⟩
def lg (B:List Int) (r:r5×Int):Prop:=
  match cut B with
  |.error e=>r=(eN,e)
  |.ok l=>
    if dH l=false then r=(eN,4)
    else if eH ((l.map Ch.d).getD 0 [])≠0 then r=(eN,eH ((l.map Ch.d).getD 0 []))
    else if¬oF (aH ((l.map Ch.d).getD 0 [])) (bY l aR) (eM l aR) (bY l ba) (eM l ba) then r=(eN,4)
    else∃q,aC.nb (bS l) (eJ (aD (aH ((l.map Ch.d).getD 0 []))) (bitsOf (aH ((l.map Ch.d).getD 0 [])))) q∧
      if q.2≠0 then r=(eN,q.2)
      else if(q.1.length:Int)<eJ (aD (aH ((l.map Ch.d).getD 0 []))) (bitsOf (aH ((l.map Ch.d).getD 0 []))) then r=(eN,2)
      else match fy ⟨aH ((l.map Ch.d).getD 0 []),bY l aR,bY l ba⟩ q.1 (aD (aH ((l.map Ch.d).getD 0 []))) 0 (List.replicate (4*(aH ((l.map Ch.d).getD 0 [])).w*(aH ((l.map Ch.d).getD 0 [])).h).toNat 0) with
        |none=>r=(eN,4)
        |some cN=>r=(⟨(aH ((l.map Ch.d).getD 0 [])).w,(aH ((l.map Ch.d).getD 0 [])).h,cN⟩,0)
end Go.aa
namespace Go.aa
open Go.ag
def pZ{frm step e k:Int}(hs:step=1∨step=2∨step=4∨step=8)(hk:0≤k):frm+k*step<e↔k<many frm step e:=by
  unfold many
  rcases hs with rfl|rfl|rfl|rfl<;>split<;>omega
def tX{frm step e:Int}(hs:step=1∨step=2∨step=4∨step=8):0≤many frm step e:=by
  unfold many
  rcases hs with rfl|rfl|rfl|rfl<;>split<;>omega
def tW{frm step e:Int}(hf:0≤frm)(he:0≤e)(hs:step=1∨step=2∨step=4∨step=8):many frm step e≤e:=by
  unfold many
  rcases hs with rfl|rfl|rfl|rfl<;>split<;>omega
def od(B:List Int)(i:Nat):0≤gn B i∧gn B i≤1:=by unfold gn;omega
def n5(B:List Int)(at_:Nat):∀n:Nat,0≤cL B at_ n∧cL B at_ n<2^n
  |0=>by simp[cL]
  |n+1=>by
    have ih:=n5 B at_ n
    have hb:=od B (at_+n)
    simp only[cL]
    have e:(2:Int)^(n+1)=2*2^n:=by rw[Int.pow_succ];omega
    rw[e]
    omega
def vV(B:List Int)(at_ m:Nat):∀n,cL B at_ (m+n)=cL B at_ m*2^n+cL B (at_+m) n
  |0=>by simp[cL]
  |n+1=>by
    have ih:=vV B at_ m n
    have e:cL B at_ m*(2^n*2)=(cL B at_ m*2^n)*2:=(Int.mul_assoc _ _ _).symm
    rw[←Nat.add_assoc,cL,ih,cL,Int.pow_succ,e,Nat.add_assoc]
    omega
def lZ(B:List Int)(j k:Nat)(hk:k<8):gn B (8*j+k)=B.getD j 0/2^(7-k)%2:=by
  unfold gn
  rw[show(8*j+k)/8=j by omega,show(8*j+k)%8=k by omega]
def K4(B:List Int)(a:Nat):cL B a 8=2*(2*(2*(2*(2*(2*(2*(2*0+gn B (a+0))+gn B (a+1))+gn B (a+2))+gn B (a+3))+gn B (a+4))+gn B (a+5))+gn B (a+6))+gn B (a+7):=rfl
def XW{x:Int}(h:0≤x∧x<256):2*(2*(2*(2*(2*(2*(2*(2*0+x/128%2)+x/64%2)+x/32%2)+x/16%2)+x/8%2)+x/4%2)+x/2%2)+x/1%2=x:=omg
def oP{B:List Int}{j:Nat}(hb:0≤B.getD j 0∧B.getD j 0<256):cL B (8*j) 8=B.getD j 0:=by
  rw[K4,lZ B j 0 dec,lZ B j 1 dec,lZ B j 2 dec,lZ B j 3 dec,lZ B j 4 dec,lZ B j 5 dec,lZ B j 6 dec,lZ B j 7 dec]
  exact XW hb
def tV{B:List Int}{j:Nat}(hb:0≤B.getD j 0∧B.getD j 0<256)(hc:0≤B.getD (j+1) 0∧B.getD (j+1) 0<256):cL B (8*j) 16=B.getD j 0*256+B.getD (j+1) 0:=by
  have h:=vV B (8*j) 8 8
  rw[oP hb,show 8*j+8=8*(j+1) by omega,oP hc] at h
  simpa using h
end Go.aa
namespace Go.aa
open Go.ag
def qo (n:Int):List Int:=[n/16777216%256,n/65536%256,n/256%256,n%256]
def Dx(n:Int):(qo n).length=4:=rfl
def D9(n:Int):aq (qo n):=fun x hx=>by
  simp only[qo,List.mem_cons,List.not_mem_nil,or_false] at hx
  rcases hx with rfl|rfl|rfl|rfl<;>omega
def Dc{n:Int}(h:0≤n∧n<4294967296)(r:List Int):aC.bN (qo n++r)=n:=by
  simp only[aC.bN,qo,List.cons_append,List.nil_append,List.getD_cons_zero,List.getD_cons_succ]
  omega
def iI (c:Ch):List Int:=qo (c.d.length:Int)++(c.k++(c.d++qo (gQ c.k c.d)))
def mC{c:Ch}(hk:c.k.length=4):(iI c).length=12+c.d.length:=by
  simp only[iI,List.length_append,Dx,hk];omega
def nm (c:Ch):Prop:=dp c.k∧aq c.d∧c.d.length≤2147483647
def oo{k:List Int}(h:dp k):aq k:=fun x hx=>by
  have:=h.2 x hx
  unfold kv at this;omega
def SH{k d:List Int}(hk:aq k)(hd:aq d):0≤gQ k d∧gQ k d<4294967296:=wK (wK dec hk) hd
def ON{c:Ch}(h:nm c):aq (iI c):=aN.aq.app (D9 _) (aN.aq.app (oo h.1) (aN.aq.app h.2.1 (D9 _)))
def vP {c : Ch} (h : nm c) (r : List Int) : first (iI c ++ r) = .ok c := by
  obtain⟨hk,hd,hl⟩:=h
  have h4:=hk.1
  have hs:=SH (oo hk) hd
  have e0:iI c++r=qo (c.d.length:Int)++(c.k++(c.d++(qo (gQ c.k c.d)++r))):=by simp[iI]
  have d4:(iI c++r).drop 4=c.k++(c.d++(qo (gQ c.k c.d)++r)):=by rw[e0];exact List.drop_left' rfl
  have e1:((iI c++r).drop 4).take 4=c.k:=by rw[d4];exact List.take_left' h4
  have d8:(iI c++r).drop 8=c.d++(qo (gQ c.k c.d)++r):=by
    rw[show 8=4+4 from rfl,←List.drop_drop,d4]
    exact List.drop_left' h4
  have e2:((iI c++r).drop 8).take c.d.length=c.d:=by rw[d8];exact List.take_left
  have e3:(iI c++r).drop (8+c.d.length)=qo (gQ c.k c.d)++r:=by
    rw[←List.drop_drop,d8];exact List.drop_left
  have e4:aC.bN (iI c++r)=(c.d.length:Int):=by rw[e0];exact Dc omg _
  have e5:(iI c++r).length=12+c.d.length+r.length:=by rw[List.length_append,mC h4]
  unfold first
  rw[if_neg omg,e4,Int.toNat_natCast,e1,if_neg (by rintro(h|h);omega;exact h hk),if_neg omg,e2,e3,Dc hs,if_pos rfl]
def j9 (l:List Ch):List Int:=l.flatMap iI
def yV{e:Ch}(he:nm e)(hek:e.k=aY):∀(l:List Ch) (f:Nat) (a:List Ch),(∀c∈l,nm c∧c.k≠aY)→l.length<f→gi f (j9 (l++[e])) a=.ok (a++(l++[e]))
  | [], f, a, _, hf => by
    obtain⟨f,rfl⟩:∃g,f=g+1:=⟨f-1,by simp at hf;omega⟩
    have e1:j9 ([]++[e])=iI e++[]:=by simp[j9]
    rw [e1, gi, vP he]
    simp only
    rw[if_pos hek,List.append_nil,mC he.1.1,Nat.sub_self,if_pos rfl]
    simp
  | c :: l, f, a, hl, hf => by
    obtain⟨f,rfl⟩:∃g,f=g+1:=⟨f-1,by simp at hf;omega⟩
    have hc:=hl c (by simp)
    have e1:j9 (c::l++[e])=iI c++j9 (l++[e]):=by simp[j9]
    have e2:(iI c++j9 (l++[e])).drop (12+c.d.length)=j9 (l++[e]):=List.drop_left' (mC hc.1.1.1)
    rw [e1, gi, vP hc.1]
    simp only
    rw[if_neg hc.2,e2,yV he hek l f _ (fun x hx=>hl x (by simp[hx])) (by simp at hf;omega)]
    simp
def uQ:∀l:List Ch,(∀c∈l,nm c)→l.length≤(j9 l).length
  |[],_=>Nat.zero_le _
  |c::l,h=>by
    have ih:=uQ l (fun x hx=>h x (by simp[hx]))
    have:=mC (h c (by simp)).1.1
    have e:j9 (c::l)=iI c++j9 l:=by simp[j9]
    rw[e,List.length_append,List.length_cons]
    omega
def cD (l:List Ch):List Int:=fx++j9 l
def Kv{l:List Ch}{e:Ch}(he:nm e)(hek:e.k=aY)(hl:∀c∈l,nm c∧c.k≠aY)(hn:(cD (l++[e])).length≤262144):cut (cD (l++[e]))=.ok (l++[e]):=by
  have h8:(cD (l++[e])).length=8+(j9 (l++[e])).length:=by simp[cD,fx];omega
  have e1:(cD (l++[e])).take 8=fx:=List.take_left' rfl
  have e2:(cD (l++[e])).drop 8=j9 (l++[e]):=List.drop_left' rfl
  have hge:=uQ (l++[e]) (fun c hc=>by
    rcases List.mem_append.1 hc with h|h
    · exact(hl c h).1
    · rw[List.mem_singleton.1 h];exact he)
  unfold cut
  rw[if_neg omg,if_neg omg,if_pos e1,e2]
  have:=yV he hek l ((cD (l++[e])).length+1) [] hl (by rw[List.length_append,List.length_singleton] at hge;omega)
  simpa using this
def HH{l:List Ch}(h:∀c∈l,nm c):aq (cD l):=by
  have hs:aq fx:=by unfold aq;decide
  refine aN.aq.app hs (fun x hx=>?_)
  obtain⟨c,hc,hx⟩:=List.mem_flatMap.1 hx
  exact ON (h c hc) x hx
end Go.aa
namespace Go.aa
open Go.ag
def ed (l:List Ch):List Int:=(l.map Ch.d).getD 0 []
def zk (l:List Ch):Fl:=⟨aH (ed l),bY l aR,bY l ba⟩
def want (h:Hd):Int:=eJ (aD h) (bitsOf h)
def kI (h:Hd):List Int:=List.replicate (4*h.w*h.h).toNat 0
inductive Pw (B:List Int) (r:r5×Int):Prop
  |cut (e:Int) (h:cut B=.error e) (hr:r=(eN,e))
  |ord (l:List Ch) (h:aa.cut B=.ok l) (ho:dH l=false) (hr:r=(eN,4))
  |head (l:List Ch) (h:aa.cut B=.ok l) (ho:dH l=true) (hh:eH (ed l)≠0) (hr:r=(eN,eH (ed l)))
  |table (l:List Ch) (h:aa.cut B=.ok l) (ho:dH l=true) (hh:eH (ed l)=0) (ht:¬oF (aH (ed l)) (bY l aR) (eM l aR) (bY l ba) (eM l ba)) (hr:r=(eN,4))
  |open_ (l:List Ch) (q:List Int×Int) (h:aa.cut B=.ok l) (ho:dH l=true) (hh:eH (ed l)=0) (ht:oF (aH (ed l)) (bY l aR) (eM l aR) (bY l ba) (eM l ba)) (hq:aC.nb (bS l) (want (aH (ed l))) q)
      (hr:(q.2≠0∧r=(eN,q.2))∨(q.2=0∧(q.1.length:Int)<want (aH (ed l))∧r=(eN,2))∨
        (q.2=0∧want (aH (ed l))≤q.1.length∧fy (zk l) q.1 (aD (aH (ed l))) 0 (kI (aH (ed l)))=none∧r=(eN,4))∨
        ∃cN,q.2=0∧want (aH (ed l))≤q.1.length∧fy (zk l) q.1 (aD (aH (ed l))) 0 (kI (aH (ed l)))=some cN∧r=(⟨(aH (ed l)).w,(aH (ed l)).h,cN⟩,0))
def lg.ways{B:List Int}{r:r5×Int}(h:lg B r):Pw B r:=by
  unfold lg at h
  cases hc:cut B with
  |error e=>rw[hc] at h;exact .cut e hc h
  |ok l=>
    rw[hc] at h
    simp only at h
    split at h
    · rename_i ho;exact .ord l hc ho h
    · rename_i ho
      have ho:dH l=true:=by simpa using ho
      split at h
      · rename_i hh;exact .head l hc ho hh h
      · rename_i hh
        have hh:eH (ed l)=0:=by simpa[ed] using hh
        split at h
        · rename_i ht;exact .table l hc ho hh ht h
        · rename_i ht
          have ht:=Classical.not_not.1 ht
          obtain⟨q,hq,h⟩:=h
          refine .open_ l q hc ho hh ht hq ?_
          split at h
          · rename_i h1;exact .inl ⟨h1,h⟩
          · rename_i h1
            have h1:q.2=0:=by simpa using h1
            split at h
            · rename_i h2;exact .inr (.inl ⟨h1,h2,h⟩)
            · rename_i h2
              have h2:want (aH (ed l))≤q.1.length:=Int.not_lt.1 h2
              split at h
              · rename_i h3;exact .inr (.inr (.inl ⟨h1,h2,h3,h⟩))
              · rename_i cN h3;exact .inr (.inr (.inr ⟨cN,h1,h2,h3,h⟩))
def zU:∀ {f:Nat} {L:List Int} {a l:List Ch},aq L→(∀c∈a,aq c.d)→gi f L a=.ok l→∀c∈l,aq c.d
  |0,L,a,l,_,_,h=>by cases h
  |f+1,L,a,l,hL,ha,h=>by
    rw[gi] at h
    split at h
    · cases h
    · rename_i c hc
      have hd:aq c.d:=by
        unfold first at hc
        split at hc
        · cases hc
        · split at hc
          · cases hc
          · split at hc
            · cases hc
            · split at hc
              · cases hc
                exact fun x hx=>hL x (List.mem_of_mem_drop (List.mem_of_mem_take hx))
              · cases hc
      have ha2:∀y∈a++[c],aq y.d:=fun y hy=>by
        rcases List.mem_append.1 hy with hy|hy
        · exact ha y hy
        · rw[List.mem_singleton.1 hy];exact hd
      split at h
      · split at h
        · cases h;exact ha2
        · cases h
      · exact zU (fun x hx=>hL x (List.mem_of_mem_drop hx)) ha2 h
def fi{B:List Int}{l:List Ch}(hB:aq B)(h:cut B=.ok l):∀c∈l,aq c.d:=by
  unfold cut at h
  split at h
  · cases h
  · split at h
    · cases h
    · split at h
      · exact zU (fun x hx=>hB x (List.mem_of_mem_drop hx)) (fun c hc=>by cases hc) h
      · cases h
def oL{l:List Ch}(h:∀c∈l,aq c.d):aq (bS l):=fun x hx=>by
  obtain⟨c,hc,hx⟩:=List.mem_flatMap.1 hx
  exact h c (List.mem_filter.1 hc).1 x hx
def lg.ex{B:List Int}(hB:aq B):∃r,lg B r:=by
  unfold lg
  cases hc:cut B with
  |error e=>exact⟨_,rfl⟩
  |ok l=>
    simp only
    split
    · exact⟨_,rfl⟩
    · split
      · exact⟨_,rfl⟩
      · split
        · exact⟨_,rfl⟩
        · obtain⟨q,hq⟩:=aC.nb.ex (oL (fi hB hc)) (eJ (aD (aH ((l.map Ch.d).getD 0 []))) (bitsOf (aH ((l.map Ch.d).getD 0 []))))
          by_cases h1:q.2≠0
          · exact⟨_,q,hq,by rw[if_pos h1]⟩
          · by_cases h2:(q.1.length:Int)<eJ (aD (aH ((l.map Ch.d).getD 0 []))) (bitsOf (aH ((l.map Ch.d).getD 0 [])))
            · exact⟨_,q,hq,by rw[if_neg h1,if_pos h2]⟩
            · cases h3:fy ⟨aH ((l.map Ch.d).getD 0 []),bY l aR,bY l ba⟩ q.1 (aD (aH ((l.map Ch.d).getD 0 []))) 0 (List.replicate (4*(aH ((l.map Ch.d).getD 0 [])).w*(aH ((l.map Ch.d).getD 0 [])).h).toNat 0) with
              |none=>exact⟨(eN,4),q,hq,by rw[if_neg h1,if_neg h2,h3]⟩
              |some cN=>exact⟨(⟨(aH ((l.map Ch.d).getD 0 [])).w,(aH ((l.map Ch.d).getD 0 [])).h,cN⟩,0),q,hq,by rw[if_neg h1,if_neg h2,h3]⟩
end Go.aa
namespace Go.aa
open Go.ag Go.ab
def sA:∀(f:Nat) {B:List Int},B.length≤65535*(f+1)→aq B→∀X∈aN.jA f B,X.length≤65535∧aq X
  |0,B,h,hB,X,hX=>by
    simp only[aN.jA,List.mem_singleton] at hX
    subst hX
    exact⟨omg,hB⟩
  |f+1,B,h,hB,X,hX=>by
    unfold aN.jA at hX
    split at hX
    · simp only[List.mem_singleton] at hX
      subst hX
      exact⟨omg,hB⟩
    · rcases List.mem_cons.1 hX with rfl|hX
      · exact⟨by rw[List.length_take];omega,fun x hx=>hB x (List.mem_of_mem_take hx)⟩
      · exact sA f (by rw[List.length_drop];omega) (fun x hx=>hB x (List.mem_of_mem_drop hx)) X hX
def C9{B:List Int}(hl:B.length≤4194304)(hB:aq B):aq (aN.iX B):=uW _ (sA 64 omg hB)
def VR{B:List Int}{mo mo':Int}{q:List Int×Int×Int}(hB:aq B)(h:iU B mo q)(he:q.2.2=0)(hl:(q.1.length:Int)≤mo'):iU B mo' q:=by
  rcases h with⟨_,rfl⟩|⟨h0,o,ho,rfl⟩
  · exact absurd he dec
  · cases o with
    |error e=>exact absurd he (Ed ho rfl)
    |ok p=>
      obtain⟨x,n⟩:=p
      exact .inr ⟨by have:(x.length:Int)≤mo':=hl;omega,_,(DW hB ho (mN h0) x n rfl).2.1 hl,rfl⟩
def cP (B:List Int):List Int:=[120,1]++aN.iX B++aC.kh B
def Dw(B:List Int):cP B=120::1::(aN.iX B++aC.kh B):=by simp[cP]
def tE{B:List Int}(h:B.length≤4194304):(cP B).length=B.length+5*((B.length-1)/65535+1)+6:=by
  simp only[cP,List.length_append,aN.yq h,aC.xY,List.length_cons,List.length_nil];omega
def UU{B:List Int}{mo:Int}(hB:aq B)(hl:B.length≤4194304)(hm:(B.length:Int)≤mo):aC.nb (cP B) mo (B,0):=by
  have hs:=aN.yq hl
  have hr:=(aN.P4 (t:=aC.kh B) hl hB (aC.uo B)).1
  have hb:aq (aN.iX B++aC.kh B):=aN.aq.app (C9 hl hB) (aC.uo B)
  rw[Dw]
  refine .inr (.inr ⟨by simp[aC.xY],aC.Yn,_,VR hb hr rfl hm,?_⟩)
  have e1:(aN.iX B++aC.kh B).length-(aN.iX B).length=4:=by rw[List.length_append,aC.xY];omega
  have e2:(aN.iX B++aC.kh B).drop (aN.iX B).length=aC.kh B:=List.drop_left
  simp only[aC.fin,List.drop_succ_cons,List.drop_zero,Int.toNat_natCast,not_true_eq_false,if_false,e1,e2]
  rw[if_neg dec,if_neg dec,if_pos trivial]
def TM{B:List Int}(hB:aq B)(hl:B.length≤4194304):aq (cP B):=by
  rw[Dw]
  exact aC.vn dec (aC.vn dec (aN.aq.app (C9 hl hB) (aC.uo B)))
end Go.aa
namespace Go.aa
open Go.ag
def two (l:List Int):List Int:=l.flatMap fun s=>[s/256,s%256]
def Em(l:List Int):(two l).length=2*l.length:=by
  induction l with
  |nil=>rfl
  |cons a l ih=>simp only[two,List.flatMap_cons,List.length_append,List.length_cons,List.length_nil] at ih ⊢;omega
def CP:∀(l:List Int) (m:Nat),m<l.length→(two l).getD (2*m) 0=l.getD m 0/256∧(two l).getD (2*m+1) 0=l.getD m 0%256
  |[],m,h=>by simp at h
  |a::l,0,_=>⟨rfl,rfl⟩
  |a::l,m+1,h=>by
    have ih:=CP l m (by simpa using h)
    have e:two (a::l)=(a/256)::(a%256)::two l:=rfl
    rw[e,show 2*(m+1)=2*m+1+1 by omega,show 2*m+1+1+1=(2*m+1)+1+1 by omega]
    simpa using ih
def wR (l:List Int):Prop:=∀x∈l,0≤x∧x<65536
def wR.get{l:List Int}(h:wR l)(i:Nat):0≤l.getD i 0∧l.getD i 0<65536:=by
  rcases Nat.lt_or_ge i l.length with k|k
  · rw[List.getD_eq_getElem?_getD,List.getElem?_eq_getElem k];exact h _ (List.getElem_mem k)
  · rw[List.getD_eq_getElem?_getD,List.getElem?_eq_none k];decide
def xO{l:List Int}(h:wR l):aq (two l):=fun x hx=>by
  obtain⟨s,hs,hx⟩:=List.mem_flatMap.1 hx
  have:=h s hs
  simp only[List.mem_cons,List.not_mem_nil,or_false] at hx
  rcases hx with rfl|rfl<;>omega
def jx (P:List Int) (W y:Nat):List Int:=two ((P.drop (4*W*y)).take (4*W))
def dg (P:List Int) (W:Nat):Nat→List Int
  |0=>[]
  |y+1=>dg P W y++(0::jx P W y)
def Ab{P:List Int}{W H y:Nat}(hP:P.length=4*W*H)(hy:y<H):(jx P W y).length=8*W:=by
  have:4*W*(y+1)≤4*W*H:=Nat.mul_le_mul_left _ hy
  rw[Nat.mul_succ] at this
  rw[jx,Em,List.length_take,List.length_drop];omega
def uY{P:List Int}{W H:Nat}(hP:P.length=4*W*H):∀y,y≤H→(dg P W y).length=y*(1+8*W)
  |0,_=>by simp[dg]
  |y+1,h=>by
    have e:(y+1)*(1+8*W)=y*(1+8*W)+(1+8*W):=Nat.succ_mul _ _
    rw[dg,List.length_append,uY hP y omg,List.length_cons,Ab hP omg,e];omega
def vq(P:List Int)(W y:Nat):∀k,∃r,dg P W (y+k)=dg P W y++r
  |0=>⟨[],by simp⟩
  |k+1=>by
    obtain⟨r,h⟩:=vq P W y k
    exact⟨r++(0::jx P W (y+k)),by rw[←Nat.add_assoc,dg,h,List.append_assoc]⟩
def RN{P:List Int}{W H y:Nat}(hP:P.length=4*W*H)(hy:y<H):(dg P W H).getD (y*(1+8*W)) 0=0∧((dg P W H).drop (y*(1+8*W)+1)).take (8*W)=jx P W y:=by
  obtain⟨r,h⟩:=vq P W (y+1) (H-(y+1))
  rw[show y+1+(H-(y+1))=H by omega,dg,List.append_assoc,List.cons_append] at h
  have hl:=uY hP y omg
  have hr:=Ab hP hy
  rw[h]
  constructor
  · rw[List.getD_eq_getElem?_getD,List.getElem?_append_right omg,hl,Nat.sub_self];rfl
  · rw[←List.drop_drop,←hl,List.drop_left,List.drop_succ_cons,List.drop_zero,←hr,List.take_left]
def qX{P:List Int}(W:Nat)(h:wR P):∀y,aq (dg P W y)
  |0=>fun x hx=>by cases hx
  |y+1=>aN.aq.app (qX W h y) (aC.vn dec (xO (fun x hx=>h x (List.mem_of_mem_drop (List.mem_of_mem_take hx)))))
end Go.aa
namespace Go.aa
open Go.ag
def YG{row above:List Int}{back:Nat}(h:aq row):ee 0 row above back=row:=by
  have e:∀i,i≤row.length→gq 0 row above back i=row.take i:=by
    intro i
    induction i with
    |zero=>intro _;simp[gq]
    |succ i ih=>
      intro hi
      have hb:=h.get i
      rw[gq,ih omg,ab.kN omg]
      have e0:∀a b c:Int,qC 0 a b c=0:=fun a b c=>by unfold qC;simp
      have e1:iY 0 row above back (row.take i) i=row.getD i 0:=by
        unfold iY
        rw[e0,Int.add_zero]
        omega
      rw[e1]
  rw[ee,e _ (Nat.le_refl _),List.take_length]
def gp (w h:Int):Hd:=⟨w,h,16,6,false⟩
def PH{P:List Int}{W H y m:Nat}(hP:P.length=4*W*H)(hy:y<H)(hm:m<4*W):(jx P W y).getD (2*m) 0=P.getD (4*W*y+m) 0/256∧(jx P W y).getD (2*m+1) 0=P.getD (4*W*y+m) 0%256:=by
  have hle:4*W*(y+1)≤4*W*H:=Nat.mul_le_mul_left _ hy
  rw[Nat.mul_succ] at hle
  have hl:((P.drop (4*W*y)).take (4*W)).length=4*W:=by rw[List.length_take,List.length_drop];omega
  have h:=CP ((P.drop (4*W*y)).take (4*W)) m omg
  have e:((P.drop (4*W*y)).take (4*W)).getD m 0=P.getD (4*W*y+m) 0:=by
    rw[List.getD_eq_getElem?_getD,List.getD_eq_getElem?_getD,List.getElem?_take_of_lt hm,List.getElem?_drop]
  rw[e] at h
  exact h
def S6{P:List Int}{W H y x:Nat}(w h:Int)(hU:wR P)(hP:P.length=4*W*H)(hy:y<H)(hx:x<W):aM (gp w h) (jx P W y) x=[P.getD (4*(W*y+x)) 0,P.getD (4*(W*y+x)+1) 0,P.getD (4*(W*y+x)+2) 0,P.getD (4*(W*y+x)+3) 0]:=by
  have hb:aq (jx P W y):=xO (fun z hz=>hU z (List.mem_of_mem_drop (List.mem_of_mem_take hz)))
  have e:∀i,i<4→cL (jx P W y) (x*4*16+i*16) 16=P.getD (4*(W*y+x)+i) 0:=fun i hi=>by
    have g:=PH (m:=4*x+i) hP hy omg
    have hu:=hU.get (4*W*y+(4*x+i))
    have h16:=tV (hb.get (8*x+2*i)) (hb.get (8*x+2*i+1))
    rw[show 8*x+2*i=2*(4*x+i) by omega,g.1,g.2] at h16
    rw[show x*4*16+i*16=8*(2*(4*x+i)) by omega,h16]
    have e3:4*W*y+(4*x+i)=4*(W*y+x)+i:=by rw[Nat.mul_add,←Nat.mul_assoc];omega
    rw[e3] at hu ⊢
    omega
  have hp:aM (gp w h) (jx P W y) x=[cL (jx P W y) (x*4*16+0*16) 16,cL (jx P W y) (x*4*16+1*16) 16,cL (jx P W y) (x*4*16+2*16) 16,cL (jx P W y) (x*4*16+3*16) 16]:=rfl
  rw[hp,e 0 dec,e 1 dec,e 2 dec,e 3 dec,Nat.add_zero]
def Yc(w h:Int)(plte trns:List Int)(a b c d:Int):gB ⟨gp w h,plte,trns⟩ [a,b,c,d]=some [a,b,c,d]:=by
  have e:∀v,Vg (gp w h) v=v:=fun v=>by
    have:(65535:Int)/(2^(16:Int).toNat-1)=1:=by decide
    simp only[Vg,gp,this,Int.mul_one]
  unfold gB
  simp only[gp] at e ⊢
  rw[if_neg dec]
  have hc:bd ⟨w,h,16,6,false⟩ trns=[]:=by unfold bd;simp
  simp only[hc,List.length_nil,Nat.lt_irrefl,false_and,if_false,List.map_cons,List.map_nil,e]
  rw[if_neg dec]
  simp
def laid (P:List Int) (k:Nat):List Int:=P.take (4*k)++List.replicate (P.length-4*k) 0
def KH{P:List Int}{W:Nat}{y x:Nat}(hk:4*(W*y+x)+4≤P.length):ko (W:Int) (laid P (W*y+x)) (0+(x:Int)*1) (0+(y:Int)*1) [P.getD (4*(W*y+x)) 0,P.getD (4*(W*y+x)+1) 0,P.getD (4*(W*y+x)+2) 0,P.getD (4*(W*y+x)+3) 0]=laid P (W*y+(x+1)):=by
  have e:(4*((0+(y:Int)*1)*(W:Int)+(0+(x:Int)*1))).toNat=4*(W*y+x):=by
    have:4*((0+(y:Int)*1)*(W:Int)+(0+(x:Int)*1))=((4*(W*y+x):Nat):Int):=by
      rw[Int.zero_add,Int.zero_add,Int.mul_one,Int.mul_one,Nat.mul_comm W y];push_cast;rfl
    rw[this];rfl
  unfold ko
  rw[e,show W*y+(x+1)=(W*y+x)+1 from rfl]
  clear e
  generalize W*y+x=k at hk
  have h1:(laid P k).take (4*k)=P.take (4*k):=by
    unfold laid
    exact List.take_left' (by rw[List.length_take];omega)
  have h2:(laid P k).drop (4*k+4)=List.replicate (P.length-4*(k+1)) 0:=by
    unfold laid
    rw[List.drop_append,List.drop_of_length_le (by rw[List.length_take];omega),List.nil_append,List.length_take,List.drop_replicate]
    congr 1
    omega
  rw[h1,h2]
  unfold laid
  congr 1
  have h3:P.take (4*(k+1))=P.take (4*k)++[P.getD (4*k) 0]++[P.getD (4*k+1) 0]++[P.getD (4*k+2) 0]++[P.getD (4*k+3) 0]:=by
    rw[show 4*(k+1)=4*k+1+1+1+1 by omega,ab.kN omg,ab.kN omg,ab.kN omg,ab.kN omg]
  rw[h3]
  simp
def Ja{P:List Int}{W H y:Nat}(w h:Int)(plte trns:List Int)(p:Ps)(hp:p.x=0∧p.y=0∧p.dx=1∧p.dy=1)(hw:w=(W:Int))(hU:wR P)(hP:P.length=4*W*H)(hy:y<H):∀k i,i+k=W→fP ⟨gp w h,plte,trns⟩ p (y:Int) (jx P W y) k i (laid P (W*y+i))=some (laid P (W*y+W))
  |0,i,hi=>by rw[fP,show i=W by omega]
  |k+1,i,hi=>by
    have hle:4*W*(y+1)≤4*W*H:=Nat.mul_le_mul_left _ hy
    rw[Nat.mul_succ,Nat.mul_assoc] at hle
    rw[fP,S6 w h hU hP hy omg,Yc]
    simp only[hp.1,hp.2.1,hp.2.2.1,hp.2.2.2]
    have e:(gp w h).w=(W:Int):=hw
    rw[e,KH omg]
    exact Ja w h plte trns p hp hw hU hP hy k (i+1) omg
def EJ{P:List Int}{W H:Nat}(w h:Int)(plte trns:List Int)(p:Ps)(hp:p.x=0∧p.y=0∧p.dx=1∧p.dy=1)(hpw:p.w=(W:Int))(hw:w=(W:Int))(hU:wR P)(hP:P.length=4*W*H):∀k y above,y+k=H→ez ⟨gp w h,plte,trns⟩ (dg P W H) (8*W) 8 p k y (y*(1+8*W)) above (laid P (W*y))=some (H*(1+8*W),laid P (W*H))
  |0,y,above,hy=>by rw[ez,show y=H by omega]
  |k+1,y,above,hy=>by
    have ha:=RN hP (show y<H by omega)
    have hb:aq (jx P W y):=xO (fun z hz=>hU z (List.mem_of_mem_drop (List.mem_of_mem_take hz)))
    rw[ez,ha.1,if_neg dec,ha.2,YG hb]
    have hpn:p.w.toNat=W:=by rw[hpw];rfl
    have hr:=Ja w h plte trns p hp hw hU hP (show y<H by omega) W 0 omg
    rw[Nat.add_zero] at hr
    rw[hpn,hr]
    simp only
    have e:y*(1+8*W)+1+8*W=(y+1)*(1+8*W):=by rw[Nat.succ_mul y (1+8*W)];omega
    rw[e,show W*y+W=W*(y+1) from(Nat.mul_succ _ _).symm]
    exact EJ w h plte trns p hp hpw hw hU hP k (y+1) (jx P W y) omg
def Wy{P:List Int}{W H:Nat}(plte trns:List Int)(hU:wR P)(hP:P.length=4*W*H):fy ⟨gp (W:Int) (H:Int),plte,trns⟩ (dg P W H) (whole (W:Int) (H:Int)) 0 (laid P 0)=some P:=by
  have e1:(eC (W:Int) (bitsOf (gp (W:Int) (H:Int)))).toNat=8*W:=by
    have:bitsOf (gp (W:Int) (H:Int))=64:=rfl
    rw[this];unfold eC;omega
  have e2:(max 1 (bitsOf (gp (W:Int) (H:Int))/8)).toNat=8:=rfl
  have h:=EJ (W:Int) (H:Int) plte trns ⟨0,0,1,1,(W:Int),(H:Int)⟩ ⟨rfl,rfl,rfl,rfl⟩ rfl rfl hU hP H 0 [] omg
  rw[Nat.zero_mul,Nat.mul_zero] at h
  have e3:laid P (W*H)=P:=by
    unfold laid
    rw[←Nat.mul_assoc,←hP,List.take_length,Nat.sub_self]
    simp
  rw[e3] at h
  unfold whole fy
  simp only[e1,e2]
  rw[show((H:Int)).toNat=H from rfl,h]
  rfl
end Go.aa
namespace Go.aa
open Go.ag
def On:dp bM:=by decide
def NL:dp aW:=by decide
def Ms:dp aY:=by decide
def ac0:bM≠aY:=by decide
def acN:aW≠aY:=by decide
def hB (w h:Int):List Int:=[0,0,w/256,w%256,0,0,h/256,h%256,16,6,0,0,0]
def mw (w h:Int) (z:List Int):List Ch:=[⟨bM,hB w h⟩,⟨aW,z⟩,⟨aY,[]⟩]
def fH (P:List Int) (W H:Nat):List Int:=cD (mw (W:Int) (H:Int) (cP (dg P W H)))
structure Sz (P:List Int) (W H:Nat):Prop where
  w:1≤W∧W≤256
  h:1≤H∧H≤256
  wh:W*H≤16384
  len:P.length=4*W*H
  u:wR P
def Ol{W H:Nat}(hw:1≤W∧W≤256)(hh:1≤H∧H≤256):aH (hB (W:Int) (H:Int))=gp (W:Int) (H:Int):=by
  unfold aH gp hB
  simp only[aC.bN,List.drop_succ_cons,List.drop_zero,List.getD_cons_zero,List.getD_cons_succ]
  congr 1<;>first|omega|rfl
def Uo{W H:Nat}(hw:1≤W∧W≤256)(hh:1≤H∧H≤256):aq (hB (W:Int) (H:Int)):=fun x hx=>by
  simp only[hB,List.mem_cons,List.not_mem_nil,or_false] at hx
  rcases hx with rfl|rfl|rfl|rfl|rfl|rfl|rfl|rfl|rfl|rfl|rfl|rfl|rfl<;>omega
def RZ{W H:Nat}(hw:1≤W∧W≤256)(hh:1≤H∧H≤256)(hwh:W*H≤16384):bD (W:Int) (H:Int)=0:=by
  unfold bD
  have:(W:Int)≤16384/(H:Int):=by
    rw[Int.le_ediv_iff_mul_le omg]
    have h2:((W*H:Nat):Int)≤16384:=omg
    rw[Int.natCast_mul] at h2
    exact h2
  rw[if_neg omg,if_neg omg]
def abR{W H:Nat}(hw:1≤W∧W≤256)(hh:1≤H∧H≤256)(hwh:W*H≤16384):eH (hB (W:Int) (H:Int))=0:=by
  unfold eH
  rw[Ol hw hh]
  have e1:(gp (W:Int) (H:Int)).w=(W:Int):=rfl
  have e2:(gp (W:Int) (H:Int)).h=(H:Int):=rfl
  have e3:deep (gp (W:Int) (H:Int)).ak (gp (W:Int) (H:Int)).dep:=show deep 6 16 by decide
  have e4:(hB (W:Int) (H:Int)).getD 10 0=0:=rfl
  have e5:(hB (W:Int) (H:Int)).getD 11 0=0:=rfl
  have e6:(hB (W:Int) (H:Int)).getD 12 0=0:=rfl
  rw[if_neg (by unfold hB;simp),e1,e2,e4,e5,e6,if_neg (by rintro(h|h|h|h|h);exact h e3;omega;omega;omega;omega),RZ hw hh hwh,if_pos rfl]
def OU(w h:Int)(z:List Int):dH (mw w h z)=true:=by
  have e:walk (((mw w h z).drop 1).take ((mw w h z).length-2)) ⟨false,false,false,false⟩=some ⟨false,false,true,false⟩:=rfl
  unfold dH
  rw[e]
  rfl
def OC(w h:Int)(z:List Int):oF (gp w h) (bY (mw w h z) aR) (eM (mw w h z) aR) (bY (mw w h z) ba) (eM (mw w h z) ba):=by
  have e1:eM (mw w h z) aR=false:=rfl
  have e2:eM (mw w h z) ba=false:=rfl
  rw[e1,e2]
  unfold oF
  simp[gp]
def JX(w h:Int)(z:List Int):bS (mw w h z)=z:=by
  have:bS (mw w h z)=z++[]:=rfl
  rw[this,List.append_nil]
def DE{P:List Int}{W H:Nat}(s:Sz P W H):(dg P W H).length=H*(1+8*W):=uY s.len H (Nat.le_refl _)
def TP{W H:Nat}(hw:1≤W∧W≤256):want (gp (W:Int) (H:Int))=((H*(1+8*W):Nat):Int):=by
  have e:want (gp (W:Int) (H:Int))=([if 0<(W:Int) then(H:Int)*(1+eC (W:Int) 64) else 0]:List Int).sum:=rfl
  have e2:eC (W:Int) 64=8*(W:Int):=by unfold eC;omega
  rw[e,if_pos omg,e2]
  simp
def qM{P:List Int}{W H:Nat}(s:Sz P W H):(dg P W H).length≤131328:=by
  have h1:=DE s
  have h2:=s.wh
  have h3:=s.h.2
  have e:H*(1+8*W)=H+8*(W*H):=by rw[Nat.mul_add,Nat.mul_one,Nat.mul_comm H (8*W),Nat.mul_assoc]
  omega
def vT{P:List Int}{W H:Nat}(s:Sz P W H):∀c∈[(⟨bM,hB (W:Int) (H:Int)⟩:Ch),⟨aW,cP (dg P W H)⟩],nm c∧c.k≠aY:=fun c hc=>by
  have hr:=qM s
  have hb:=TM (qX W s.u H) omg
  have hl:=tE (B:=dg P W H) omg
  simp only[List.mem_cons,List.not_mem_nil,or_false] at hc
  rcases hc with rfl|rfl
  · exact⟨⟨On,Uo s.w s.h,by simp[hB]⟩,ac0⟩
  · exact⟨⟨NL,hb,by simp only;omega⟩,acN⟩
def x9:nm ⟨aY,[]⟩:=⟨Ms,aN.jc,by decide⟩
def sH{P:List Int}{W H:Nat}(s:Sz P W H):(fH P W H).length=57+(cP (dg P W H)).length:=by
  have e:fH P W H=fx++(iI ⟨bM,hB (W:Int) (H:Int)⟩++(iI ⟨aW,cP (dg P W H)⟩++iI ⟨aY,[]⟩)):=by simp[fH,cD,j9,mw]
  rw[e,List.length_append,List.length_append,List.length_append,mC On.1,mC NL.1,mC Ms.1]
  simp[fx,hB]
  omega
def G3{P:List Int}{W H:Nat}(s:Sz P W H):cut (fH P W H)=.ok (mw (W:Int) (H:Int) (cP (dg P W H))):=by
  have hr:=qM s
  have hl:=tE (B:=dg P W H) omg
  have hp:=sH s
  exact Kv (l:=[⟨bM,hB (W:Int) (H:Int)⟩,⟨aW,cP (dg P W H)⟩]) x9 rfl (vT s) (by
    have:(fH P W H).length≤262144:=omg
    exact this)
def Hk{P:List Int}{W H:Nat}(s:Sz P W H):aq (fH P W H):=HH (fun c hc=>by
  have hc:c∈[(⟨bM,hB (W:Int) (H:Int)⟩:Ch),⟨aW,cP (dg P W H)⟩]++[⟨aY,[]⟩]:=hc
  rcases List.mem_append.1 hc with h|h
  · exact(vT s c h).1
  · rw[List.mem_singleton.1 h];exact x9)
def Ji{P:List Int}{W H:Nat}(s:Sz P W H):kI (gp (W:Int) (H:Int))=laid P 0:=by
  have e:(4*(W:Int)*(H:Int)).toNat=P.length:=by
    have:4*(W:Int)*(H:Int)=((4*W*H:Nat):Int):=by push_cast;rfl
    rw[this,s.len];rfl
  unfold kI laid
  simp only[gp,e,Nat.mul_zero,List.take_zero,List.nil_append,Nat.sub_zero]
def Iy{P:List Int}{W H:Nat}(s:Sz P W H):lg (fH P W H) (⟨(W:Int),(H:Int),P⟩,0):=by
  have hr:=qM s
  have hrl:=DE s
  have hw:=TP (H:=H) s.w
  have hd:(((mw (W:Int) (H:Int) (cP (dg P W H))).map Ch.d).getD 0 [])=hB (W:Int) (H:Int):=rfl
  unfold lg
  rw[G3 s]
  simp only[hd,Ol s.w s.h,abR s.w s.h s.wh,JX]
  rw[if_neg (by rw[OU];decide),if_neg (fun h=>h rfl),if_neg (fun h=>h (OC _ _ _))]
  have hwant:eJ (aD (gp (W:Int) (H:Int))) (bitsOf (gp (W:Int) (H:Int)))=(((dg P W H).length:Nat):Int):=by rw[hrl];exact hw
  rw[hwant]
  refine⟨(dg P W H,0),UU (qX W s.u H) omg (Int.le_refl _),?_⟩
  rw[if_neg (fun h=>h rfl),if_neg (Int.lt_irrefl _)]
  have hdr:=Wy (bY (mw (W:Int) (H:Int) (cP (dg P W H))) aR) (bY (mw (W:Int) (H:Int) (cP (dg P W H))) ba) s.u s.len
  have h0:=Ji s
  unfold kI at h0
  have hp:aD (gp (W:Int) (H:Int))=whole (W:Int) (H:Int):=rfl
  rw[hp,h0]
  simp only
  rw[hdr]
  rfl
end Go.aa
namespace Go.aa
open Go.ag
def ze{x:Int}(h0:0≤x∧x<4294967296):IntKind.u32.wrap ((BitVec.ofInt IntKind.u32.bits x&&&BitVec.ofInt IntKind.u32.bits 1).toNat:Int)=x%2:=by
  obtain⟨a,rfl⟩:∃a:Nat,x=(a:Int):=⟨x.toNat,omg⟩
  have e:IntKind.u32.bits=32:=rfl
  have e1:BitVec.ofInt 32 1=BitVec.ofInt 32 ((1:Nat):Int):=rfl
  rw[e,e1,BitVec.toNat_and,dU,dU,Nat.mod_eq_of_lt omg,Nat.mod_eq_of_lt omg,Nat.and_one_is_mod,aC.wrap32 omg omg]
  omega
def ob{x r:Int}{n:Nat}{d:Int}(hd:d=(n:Int))(hn:n≤32)(hr:x/2^n=r):x.fdiv (2^(min d.toNat IntKind.u32.bits))=r:=by rw[aC.Ft hd hn,hr]
def gU(n:Int):IntKind.u8.wrap n=n%256:=rfl
def gZ (k:Nat) (x:Int):Int:=((lj k x.toNat:Nat):Int)
def No{x:Int}(h:0≤x):gZ 0 x=x:=by unfold gZ lj;omega
def L4(x:Int):gZ 8 x=gN x:=rfl
def Gv{x:Int}(h:0≤x∧x<4294967296)(k:Nat):0≤gZ k x∧gZ k x<4294967296:=by
  have:=E7 (x:=x.toNat) omg k
  unfold gZ;omega
def Ej{x:Int}{k:Nat}(h:gZ k x%2=1):gZ (k+1) x=eg (gZ k x/2) 3988292384:=by
  have h2:lj k x.toNat%2=1:=by unfold gZ at h;omega
  have e:((lj k x.toNat:Nat):Int)/2=((lj k x.toNat/2:Nat):Int):=omg
  unfold gZ eg
  rw[lj,tn,if_pos h2,e,Int.toNat_natCast]
  rfl
def BR{x:Int}{k:Nat}(h:¬gZ k x%2=1):gZ (k+1) x=gZ k x/2:=by
  have h2:¬lj k x.toNat%2=1:=by unfold gZ at h;omega
  unfold gZ
  rw[lj,tn,if_neg h2]
  omega
def iB (i:Nat):List Int:=(List.range i).map (fun j=>gN (j:Nat))++List.replicate (256-i) 0
def fL:List Int:=iB 256
def Ck{i:Nat}(h:i≤256):(iB i).length=256:=by simp[iB];omega
def WZ:iB 0=List.replicate 256 0:=rfl
def JT{i:Nat}(h:i<256):(iB i).set i (gN (i:Nat))=iB (i+1):=by
  unfold iB
  rw[List.set_append_right _ _ (by simp),List.length_map,List.length_range,Nat.sub_self,show 256-i=(256-(i+1))+1 by omega,List.replicate_succ,List.set_cons_zero,List.range_succ,List.map_append]
  simp
def KC{x:Int}(h:0≤x∧x<256):fL.getD x.toNat 0=gN x:=by
  obtain⟨n,rfl⟩:∃n:Nat,x=(n:Int):=⟨x.toNat,omg⟩
  have hn:n<256:=omg
  have:fL=(List.range 256).map (fun j=>gN (j:Nat)):=by unfold fL iB;simp
  rw[this,Int.toNat_natCast,List.getD_eq_getElem?_getD,List.getElem?_map,List.getElem?_range hn]
  rfl
def aT{l:List Int}(h:aq l):∀x∈l,0≤x∧x<256:=h
def OZ:iB 256=fL:=rfl
def dS{l:List Int}(h:aq l)(i:Nat):aq (l.take i):=fun x hx=>h x (List.mem_of_mem_take hx)
def PT:fL.length=256:=Ck (Nat.le_refl _)
def SZ{a b:Int}(ha:0≤a∧a<256)(hb:0≤b∧b<256):0≤eg a b∧eg a b<256:=sE (n:=8) ha hb
def OY{a b:Int}(ha:0≤a∧a<4294967296)(hb:0≤b∧b<4294967296):0≤eg a b∧eg a b<4294967296:=sE (n:=32) ha hb
end Go.aa
namespace Go.aa
open Go.ag
def SG(c:Int):(97≤c∧c≤122)∨(97≤c∧¬c≤122)∨(¬97≤c∧65≤c∧c≤90)∨(¬97≤c∧65≤c∧¬c≤90)∨(¬97≤c∧¬65≤c):=omg
def xG{k:List Int}{i:Nat}(h:¬kv (k.getD i 0))(hi:i<k.length):¬dp k:=fun hn=>h (by
  rw[List.getD_eq_getElem?_getD,List.getElem?_eq_getElem hi]
  exact hn.2 _ (List.getElem_mem hi))
def CU{k:List Int}(h:∀j,j<k.length→kv (k.getD j 0)):dp k↔k.length=4:=by
  constructor
  · exact fun h=>h.1
  · refine fun h4=>⟨h4,fun c hc=>?_⟩
    obtain⟨j,hj,rfl⟩:=List.getElem_of_mem hc
    have:=h j hj
    rwa [List.getD_eq_getElem?_getD,List.getElem?_eq_getElem hj] at this
def YH{k:List Int}{t:Bool}(ht:t=decide (dp k))(h:∀j,j<k.length→kv (k.getD j 0)):decide ((k.length:Int)=4)=t:=by
  rw[ht]
  have:=CU h
  by_cases h4:k.length=4
  · rw[decide_eq_true (this.2 h4),decide_eq_true omg]
  · rw[decide_eq_false (fun hh=>h4 (this.1 hh)),decide_eq_false omg]
def ac (B:List Int):Nat→Int
  |0=>0
  |i+1=>ac B i*256+B.getD i 0
def acd(B:List Int):ac B 4=aC.bN B:=by simp only[ac,aC.bN];omega
def Xz{B:List Int}(hB:aq B){i:Nat}(hi:i<4):0≤ac B i∧ac B i<16777216:=by
  have h0:=hB.get 0;have h1:=hB.get 1;have h2:=hB.get 2
  have:i=0∨i=1∨i=2∨i=3:=omg
  rcases this with rfl|rfl|rfl|rfl<;>simp only[ac]<;>omega
def H9{B:List Int}{n i:Nat}(h:i<n):(B.take n).getD i 0=B.getD i 0:=by
  rw[List.getD_eq_getElem?_getD,List.getD_eq_getElem?_getD,List.getElem?_take_of_lt h]
end Go.aa
namespace Go.aa
open Go.ag
def xb{L:List Int}(hL:aq L):(L.length<12∧first L=.error 2)∨
    (∃n:Nat,12≤L.length∧aC.bN L=(n:Int)∧n<4294967296∧2147483647<n∧first L=.error 4)∨
    (∃n:Nat,12≤L.length∧aC.bN L=(n:Int)∧n≤2147483647∧¬dp ((L.drop 4).take 4)∧first L=.error 4)∨
    (∃n:Nat,12≤L.length∧aC.bN L=(n:Int)∧n≤2147483647∧dp ((L.drop 4).take 4)∧L.length<12+n∧first L=.error 2)∨
    (∃n:Nat,12≤L.length∧aC.bN L=(n:Int)∧n≤2147483647∧dp ((L.drop 4).take 4)∧12+n≤L.length∧aC.bN (L.drop (8+n))=gQ ((L.drop 4).take 4) ((L.drop 8).take n)∧first L=.ok ⟨(L.drop 4).take 4,(L.drop 8).take n⟩)∨
    (∃n:Nat,12≤L.length∧aC.bN L=(n:Int)∧n≤2147483647∧dp ((L.drop 4).take 4)∧12+n≤L.length∧¬aC.bN (L.drop (8+n))=gQ ((L.drop 4).take 4) ((L.drop 8).take n)∧first L=.error 5):=by
  rcases Wh hL with h|⟨n,h12,hn,hb,⟨h1,h2⟩|⟨h1,h2,h3⟩|⟨h1,h2,h3,h4⟩|⟨h1,h2,h3,h4,h5⟩|⟨h1,h2,h3,h4,h5⟩⟩
  · exact .inl h
  · exact .inr (.inl ⟨n,h12,hn,hb,h1,h2⟩)
  · exact .inr (.inr (.inl ⟨n,h12,hn,h1,h2,h3⟩))
  · exact .inr (.inr (.inr (.inl ⟨n,h12,hn,h1,h2,h3,h4⟩)))
  · exact .inr (.inr (.inr (.inr (.inl ⟨n,h12,hn,h5,h2,h1,h3,h4⟩))))
  · exact .inr (.inr (.inr (.inr (.inr ⟨n,h12,hn,h5,h2,h1,h3,h4⟩))))
def cA{l:List Int}(h:aq l)(i:Nat):aq (l.drop i):=fun x hx=>h x (List.mem_of_mem_drop hx)
def gy{l:List Int}{i n:Nat}(h:i+n≤l.length):((l.drop i).take n).length=n:=by rw[List.length_take,List.length_drop];omega
end Go.aa
namespace Go.aa
open Go.ag
def GB{L:List Int}{x:Ch}(hL:aq L)(h:first L=.ok x):12+x.d.length≤L.length∧dp x.k∧aq x.d:=by
  rcases xb hL with⟨_,h1⟩|⟨n,_,_,_,_,h1⟩|⟨n,_,_,_,_,h1⟩|⟨n,_,_,_,_,_,h1⟩|⟨n,_,_,_,h2,h3,_,h1⟩|⟨n,_,_,_,_,_,_,h1⟩<;>rw[h1] at h<;>cases h
  refine⟨?_,h2,dS (cA hL 8) n⟩
  have:=gy (l:=L) (i:=8) (n:=n) omg
  show 12+((L.drop 8).take n).length≤_
  omega
def Ll{L:List Int}{e:Int}(hL:aq L)(h:first L=.error e):e≠0:=by
  rcases xb hL with⟨_,h1⟩|⟨n,_,_,_,_,h1⟩|⟨n,_,_,_,_,h1⟩|⟨n,_,_,_,_,_,h1⟩|⟨n,_,_,_,h2,h3,_,h1⟩|⟨n,_,_,_,_,_,_,h1⟩<;>rw[h1] at h<;>cases h<;>decide
def acy{Z:List Int}(hZ:aq Z):(∃e,first Z=.error e∧e≠0)∨(∃x,first Z=.ok x∧12+x.d.length≤Z.length∧dp x.k∧aq x.d∧x.k≠aY)∨
    (∃x,first Z=.ok x∧12+x.d.length=Z.length∧dp x.k∧aq x.d∧x.k=aY)∨(∃x,first Z=.ok x∧12+x.d.length<Z.length∧dp x.k∧aq x.d∧x.k=aY):=by
  cases h:first Z with
  |error e=>exact .inl ⟨e,rfl,Ll hZ h⟩
  |ok x=>
    obtain⟨h1,h2,h3⟩:=GB hZ h
    by_cases hk:x.k=aY
    · rcases Nat.lt_or_ge (12+x.d.length) Z.length with h4|h4
      · exact .inr (.inr (.inr ⟨x,rfl,h4,h2,h3,hk⟩))
      · exact .inr (.inr (.inl ⟨x,rfl,omg,h2,h3,hk⟩))
    · exact .inr (.inl ⟨x,rfl,h1,h2,h3,hk⟩)
def qi{f:Nat}{Z:List Int}{l:List Ch}{e:Int}(h:first Z=.error e):gi (f+1) Z l=.error e:=by rw[gi,h]
def Jr{f:Nat}{Z:List Int}{l:List Ch}{x:Ch}(h:first Z=.ok x)(hk:x.k≠aY):gi (f+1) Z l=gi f (Z.drop (12+x.d.length)) (l++[x]):=by
  rw[gi,h];simp only;rw[if_neg hk]
def JE{f:Nat}{Z:List Int}{l:List Ch}{x:Ch}(h:first Z=.ok x)(hk:x.k=aY)(hl:12+x.d.length=Z.length):gi (f+1) Z l=.ok (l++[x]):=by
  rw[gi,h];simp only;rw[if_pos hk,if_pos omg]
def Hb{f:Nat}{Z:List Int}{l:List Ch}{x:Ch}(h:first Z=.ok x)(hk:x.k=aY)(hl:12+x.d.length<Z.length):gi (f+1) Z l=.error 4:=by
  rw[gi,h];simp only;rw[if_pos hk,if_neg omg]
def It(B:List Int):(262144<B.length∧cut B=.error 3)∨(B.length<8∧cut B=.error 2)∨(B.length≤262144∧8≤B.length∧B.take 8≠fx∧cut B=.error 4)∨(B.length≤262144∧8≤B.length∧B.take 8=fx∧gi (B.length+1) (B.drop 8) []=cut B):=by
  rcases Nat.lt_or_ge 262144 B.length with h|h
  · exact .inl ⟨h,by unfold cut;rw[if_pos h]⟩
  · rcases Nat.lt_or_ge B.length 8 with h2|h2
    · exact .inr (.inl ⟨h2,by unfold cut;rw[if_neg omg,if_pos h2]⟩)
    · by_cases h3:B.take 8=fx
      · exact .inr (.inr (.inr ⟨h,h2,h3,by unfold cut;rw[if_neg omg,if_neg omg,if_pos h3]⟩))
      · exact .inr (.inr (.inl ⟨h,h2,h3,by unfold cut;rw[if_neg omg,if_neg omg,if_neg h3]⟩))
def AD:fx.length=8:=rfl
def rW:aq fx:=by unfold aq;decide
def mO:aq aY:=by unfold aq;decide
end Go.aa
namespace Go.aa
open Go.ag
def acx{p t i o:Bool}{c:Ch}(h:c.k=aW):cV ⟨p,t,i,o⟩ c=(⟨p,t,true,o⟩, !o):=by unfold cV;rw[if_pos h]
def Yk{p i o:Bool}{c:Ch}(h1:c.k≠aW)(h2:c.k=aR):cV ⟨p,true,i,o⟩ c=(⟨p,true,i,i⟩,false):=by unfold cV;rw[if_neg h1,if_pos h2];rfl
def YP{p i o:Bool}{c:Ch}(h1:c.k≠aW)(h2:c.k=aR):cV ⟨p,false,i,o⟩ c=(⟨true,false,i,i⟩, !p&& !i):=by unfold cV;rw[if_neg h1,if_pos h2];rfl
def abY{p t i o:Bool}{c:Ch}(h1:c.k≠aW)(h2:c.k≠aR)(h3:c.k=ba):cV ⟨p,t,i,o⟩ c=(⟨p,true,i,i⟩, !t&& !i):=by unfold cV;rw[if_neg h1,if_neg h2,if_pos h3]
def Lw{p t i o:Bool}{c:Ch}{r:Bool}(h1:c.k≠aW)(h2:c.k≠aR)(h3:c.k≠ba)(hr:r=(decide (dp c.k)&& !decide (gS c.k))):cV ⟨p,t,i,o⟩ c=(⟨p,t,i,i⟩,r):=by unfold cV;rw[if_neg h1,if_neg h2,if_neg h3,hr]
def XI(k:List Int)(t:Bool):k=aW∨(k≠aW∧k=aR∧t=true)∨(k≠aW∧k=aR∧t=false)∨(k≠aW∧k≠aR∧k=ba)∨(k≠aW∧k≠aR∧k≠ba∧¬dp k)∨(k≠aW∧k≠aR∧k≠ba∧dp k∧gS k)∨(k≠aW∧k≠aR∧k≠ba∧dp k∧¬gS k):=by
  by_cases h1:k=aW
  · exact .inl h1
  · by_cases h2:k=aR
    · cases t
      · exact .inr (.inr (.inl ⟨h1,h2,rfl⟩))
      · exact .inr (.inl ⟨h1,h2,rfl⟩)
    · by_cases h3:k=ba
      · exact .inr (.inr (.inr (.inl ⟨h1,h2,h3⟩)))
      · by_cases h4:dp k
        · by_cases h5:gS k
          · exact .inr (.inr (.inr (.inr (.inr (.inl ⟨h1,h2,h3,h4,h5⟩)))))
          · exact .inr (.inr (.inr (.inr (.inr (.inr ⟨h1,h2,h3,h4,h5⟩)))))
        · exact .inr (.inr (.inr (.inr (.inl ⟨h1,h2,h3,h4⟩))))
def Ew{k:List Int}(h:dp k):k.length=4:=h.1
def Tb{k:List Int}{t:Bool}(ht:t=decide (gS k))(h:dp k):t=decide (k.getD 0 0≤90):=by
  rw[ht]
  by_cases h9:k.getD 0 0≤90
  · exact(decide_eq_true (show gS k from⟨h,h9⟩)).trans (decide_eq_true h9).symm
  · exact(decide_eq_false (fun hh:gS k=>h9 hh.2)).trans (decide_eq_false h9).symm
def Uq{k:List Int}{t:Bool}(ht:t=decide (gS k))(h:¬dp k):t=false:=ht.trans (decide_eq_false (fun hh=>h hh.1))
def acQ{k:List Int}(h:¬dp k):false=(decide (dp k)&& !decide (gS k)):=by rw[decide_eq_false h];rfl
def aca{k:List Int}(h:gS k):false=(decide (dp k)&& !decide (gS k)):=by rw[decide_eq_true h];simp
def acs{k:List Int}(h:dp k)(h2:¬gS k):true=(decide (dp k)&& !decide (gS k)):=by rw[decide_eq_true h,decide_eq_false h2];rfl
def mM:aq aW:=by unfold aq;decide
def mQ:aq aR:=by unfold aq;decide
def mD:aq ba:=by unfold aq;decide
def xz:aq bM:=by unfold aq;decide
def AQ:Wk:=⟨false,false,false,false⟩
def bj (l:List Ch):List Ch:=(l.drop 1).take (l.length-2)
def wid (o:Option Wk):Bool:=match o with|some w=>w.bS|none=>false
def acn(l:List Ch):(l.length<3∧dH l=false)∨(3≤l.length∧((l.map Ch.k).getD 0 []≠bM)∧dH l=false)∨(3≤l.length∧(l.map Ch.k).getD 0 []=bM∧¬((l.map (·.d.length)).getD 0 0=13)∧dH l=false)∨
    (3≤l.length∧(l.map Ch.k).getD 0 []=bM∧(l.map (·.d.length)).getD 0 0=13∧(l.map Ch.k).getD (l.length-1) []≠aY∧dH l=false)∨
    (3≤l.length∧(l.map Ch.k).getD 0 []=bM∧(l.map (·.d.length)).getD 0 0=13∧(l.map Ch.k).getD (l.length-1) []=aY∧¬((l.map (·.d.length)).getD (l.length-1) 0=0)∧dH l=false)∨
    (3≤l.length∧(l.map Ch.k).getD 0 []=bM∧(l.map (·.d.length)).getD 0 0=13∧(l.map Ch.k).getD (l.length-1) []=aY∧(l.map (·.d.length)).getD (l.length-1) 0=0∧dH l=wid (walk (bj l) AQ)):=by
  by_cases h1:3≤l.length
  · by_cases h2:(l.map Ch.k).getD 0 []=bM
    · by_cases h3:(l.map (·.d.length)).getD 0 0=13
      · by_cases h4:(l.map Ch.k).getD (l.length-1) []=aY
        · by_cases h5:(l.map (·.d.length)).getD (l.length-1) 0=0
          · refine .inr (.inr (.inr (.inr (.inr ⟨h1,h2,h3,h4,h5,?_⟩))))
            unfold dH
            rw[h2,h3,h4,h5,decide_eq_true h1,show(bM==bM)=true by decide,show(aY==aY)=true by decide]
            rfl
          · refine .inr (.inr (.inr (.inr (.inl ⟨h1,h2,h3,h4,h5,?_⟩))))
            unfold dH
            rw[beq_eq_false_iff_ne.2 h5]
            simp
        · refine .inr (.inr (.inr (.inl ⟨h1,h2,h3,h4,?_⟩)))
          unfold dH
          rw[beq_eq_false_iff_ne.2 h4]
          simp
      · refine .inr (.inr (.inl ⟨h1,h2,h3,?_⟩))
        unfold dH
        rw[beq_eq_false_iff_ne.2 h3]
        simp
    · refine .inr (.inl ⟨h1,h2,?_⟩)
      unfold dH
      rw[beq_eq_false_iff_ne.2 h2]
      simp
  · refine .inl ⟨omg,?_⟩
    unfold dH
    rw[decide_eq_false h1]
    simp
def SY{l:List Ch}{i:Nat}{w:Wk}(c:Ch)(hc:l[i]?=some c):walk (l.drop i) w=(if(cV w c).2 then walk (l.drop (i+1)) (cV w c).1 else none):=by
  have hlt:=(List.getElem?_eq_some_iff.1 hc).1
  rw[List.drop_eq_getElem_cons hlt,walk]
  have:l[i]=c:=by rw[List.getElem?_eq_getElem hlt] at hc;exact Option.some.inj hc
  rw[this]
def GZ{l:List Ch}{i:Nat}{w:Wk}(h:l.length≤i):walk (l.drop i) w=some w:=by rw[List.drop_of_length_le h,walk]
end Go.aa
namespace Go.aa
open Go.ag
def EX (l:List Ch):Int:=if dH l then 0 else 4
def lh{l:List Ch}(h:dH l=true):EX l=0:=if_pos h
def eU{l:List Ch}(h:dH l=false):EX l=4:=if_neg (by rw[h];decide)
def T2(b:Bool):b=true∨b=false:=by cases b<;>simp
def Ep{l:List Ch}(h:3≤l.length):(bj l).length=l.length-2:=by unfold bj;rw[List.length_take,List.length_drop];omega
def PB{l:List Ch}{i:Nat}(h:i<l.length-2):(bj l)[i]?=l[1+i]?:=by unfold bj;rw[List.getElem?_take_of_lt h,List.getElem?_drop]
def Hl{l:List Ch}(h:dH l=wid (walk (bj l) AQ)){w:Wk}(hw:walk (bj l) AQ=some w):dH l=w.bS:=by rw[h,hw];rfl
def TS{l:List Ch}(h:dH l=wid (walk (bj l) AQ))(hw:walk (bj l) AQ=none):dH l=false:=by rw[h,hw];rfl
end Go.aa
namespace Go.aa
open Go.ag
def ph (c:Int):Int:=IntKind.u8.wrap ((BitVec.ofInt IntKind.u8.bits c|||BitVec.ofInt IntKind.u8.bits 32).toNat:Int)
def RK:∀k:Fin 256,(decide (97≤ph ((k.val:Nat):Int)∧ph ((k.val:Nat):Int)≤122)==decide (kv ((k.val:Nat):Int)))=true:=by decide+kernel
def Rn{c:Int}(h:0≤c∧c<256):(97≤ph c∧ph c≤122)↔kv c:=by
  obtain⟨k,rfl⟩:=aC.oI h
  have:=RK k
  rw[beq_iff_eq] at this
  by_cases h1:kv ((k.val:Nat):Int)
  · rw[decide_eq_true h1] at this;exact⟨fun _=>h1,fun _=>of_decide_eq_true this⟩
  · rw[decide_eq_false h1] at this;exact⟨fun hh=>absurd hh (of_decide_eq_false this),fun hh=>absurd hh h1⟩
def o3{c:Int}(h:0≤c∧c<256):(ph c<97∧¬kv c)∨(¬ph c<97∧122<ph c∧¬kv c)∨(¬ph c<97∧¬122<ph c∧kv c):=by
  have:=Rn h
  rcases Int.lt_or_le (ph c) 97 with h1|h1
  · exact .inl ⟨h1,fun hh=>by have:=this.2 hh;omega⟩
  · rcases Int.lt_or_le 122 (ph c) with h2|h2
    · exact .inr (.inl ⟨omg,h2,fun hh=>by have:=this.2 hh;omega⟩)
    · exact .inr (.inr ⟨omg,omg,this.1 ⟨h1,h2⟩⟩)
def Yz{k:List Int}(h:¬k.length=4):¬dp k:=fun hn=>h hn.1
def XD{Z:List Int}(hZ:aq Z):(Z.length<12∧first Z=.error 2)∨
    (∃n:Nat,12≤Z.length∧aC.bN Z=(n:Int)∧n<4294967296∧2147483647<n∧first Z=.error 4)∨
    (∃n:Nat,12≤Z.length∧aC.bN Z=(n:Int)∧n≤2147483647∧¬dp ((Z.drop 4).take 4)∧first Z=.error 4)∨
    (∃n:Nat,12≤Z.length∧aC.bN Z=(n:Int)∧n≤2147483647∧dp ((Z.drop 4).take 4)∧Z.length<12+n∧first Z=.error 2)∨
    (∃n:Nat,12≤Z.length∧aC.bN Z=(n:Int)∧n≤2147483647∧dp ((Z.drop 4).take 4)∧12+n≤Z.length∧¬aC.bN (Z.drop (8+n))=gQ ((Z.drop 4).take 4) ((Z.drop 8).take n)∧first Z=.error 5)∨
    (∃n:Nat,12≤Z.length∧aC.bN Z=(n:Int)∧n≤2147483647∧dp ((Z.drop 4).take 4)∧12+n≤Z.length∧aC.bN (Z.drop (8+n))=gQ ((Z.drop 4).take 4) ((Z.drop 8).take n)∧first Z=.ok ⟨(Z.drop 4).take 4,(Z.drop 8).take n⟩∧(Z.drop 4).take 4≠aY)∨
    (∃n:Nat,12≤Z.length∧aC.bN Z=(n:Int)∧n≤2147483647∧dp ((Z.drop 4).take 4)∧12+n≤Z.length∧aC.bN (Z.drop (8+n))=gQ ((Z.drop 4).take 4) ((Z.drop 8).take n)∧first Z=.ok ⟨(Z.drop 4).take 4,(Z.drop 8).take n⟩∧(Z.drop 4).take 4=aY):=by
  rcases xb hZ with h|h|h|h|⟨n,a,b,c,d,e,f,g⟩|h
  · exact .inl h
  · exact .inr (.inl h)
  · exact .inr (.inr (.inl h))
  · exact .inr (.inr (.inr (.inl h)))
  · by_cases hk:(Z.drop 4).take 4=aY
    · exact .inr (.inr (.inr (.inr (.inr (.inr ⟨n,a,b,c,d,e,f,g,hk⟩)))))
    · exact .inr (.inr (.inr (.inr (.inr (.inl ⟨n,a,b,c,d,e,f,g,hk⟩)))))
  · exact .inr (.inr (.inr (.inr (.inl h))))
def Jp(B:List Int)(a k:Nat):(B.drop a).getD k 0=B.getD (a+k) 0:=by rw[List.getD_eq_getElem?_getD,List.getD_eq_getElem?_getD,List.getElem?_drop]
def kT(B:List Int)(a:Nat):B.getD a 0*16777216+B.getD (a+1) 0*65536+B.getD (a+2) 0*256+B.getD (a+3) 0=aC.bN (B.drop a):=by
  simp only[aC.bN,Jp,Nat.add_zero]
end Go.aa
namespace Go.aa
open Go.ag
def Ov{n i:Nat}{prev:List Int}{L:List Ch}{s:Od}(c:Ch)(h:L[i]?=some c):jK n i prev (L.drop i) s=(match bE n i prev c s with|none=>false|some s2=>jK n (i+1) c.k (L.drop (i+1)) s2):=by
  have hi:i<L.length:=(List.getElem?_eq_some_iff.1 h).1
  have e:L.drop i=c::L.drop (i+1):=by
    rw[List.drop_eq_getElem_cons hi]
    rw[List.getElem?_eq_getElem hi] at h
    rw[Option.some.inj h]
  rw[e,jK]<;>(cases bE n i prev c s<;>rfl)
def mW{n i:Nat}{prev:List Int}{L:List Ch}{s:Od}{c:Ch}{r:Bool}(hr:jK n i prev (L.drop i) s=r)(h:L[i]?=some c)(hs:bE n i prev c s=none):r=false:=by rw[Ov c h,hs] at hr;exact hr.symm
def ru{n i:Nat}{prev:List Int}{L:List Ch}{s s2:Od}{c:Ch}{r:Bool}(hr:jK n i prev (L.drop i) s=r)(h:L[i]?=some c)(hs:bE n i prev c s=some s2):jK n (i+1) c.k (L.drop (i+1)) s2=r:=by rw[Ov c h,hs] at hr;exact hr
def kinds(k:List Int):k=bM∨(k≠bM∧k=aY)∨(k≠bM∧k≠aY∧k=aW)∨(k≠bM∧k≠aY∧k≠aW∧k=aR)∨(k≠bM∧k≠aY∧k≠aW∧k≠aR∧k=ba)∨
    (k≠bM∧k≠aY∧k≠aW∧k≠aR∧k≠ba):=by
  by_cases h1:k=bM
  · exact .inl h1
  by_cases h2:k=aY
  · exact .inr (.inl ⟨h1,h2⟩)
  by_cases h3:k=aW
  · exact .inr (.inr (.inl ⟨h1,h2,h3⟩))
  by_cases h4:k=aR
  · exact .inr (.inr (.inr (.inl ⟨h1,h2,h3,h4⟩)))
  by_cases h5:k=ba
  · exact .inr (.inr (.inr (.inr (.inl ⟨h1,h2,h3,h4,h5⟩))))
  · exact .inr (.inr (.inr (.inr (.inr ⟨h1,h2,h3,h4,h5⟩))))
variable {n i:Nat} {prev:List Int} {c:Ch} {s:Od}
def abL(h:c.k=bM):(0<i∧bE n i prev c s=none)∨(¬0<i∧c.d.length≠13∧bE n i prev c s=none)∨(¬0<i∧¬c.d.length≠13∧bE n i prev c s=some {s with eE:=s.eE+1}):=by
  unfold bE
  rw[if_pos h]
  by_cases h1:0<i
  · exact .inl ⟨h1,if_pos (.inl h1)⟩
  by_cases h2:c.d.length≠13
  · exact .inr (.inl ⟨h1,h2,if_pos (.inr h2)⟩)
  · exact .inr (.inr ⟨h1,h2,if_neg (by rintro(h|h);exact h1 h;exact h2 h)⟩)
def abO(h0:c.k≠bM)(h:c.k=aY):(i+1<n∧bE n i prev c s=none)∨(¬i+1<n∧0<c.d.length∧bE n i prev c s=none)∨(¬i+1<n∧¬0<c.d.length∧bE n i prev c s=some {s with ends:=s.ends+1}):=by
  unfold bE
  rw[if_neg h0,if_pos h]
  by_cases h1:i+1<n
  · exact .inl ⟨h1,if_pos (.inl h1)⟩
  by_cases h2:0<c.d.length
  · exact .inr (.inl ⟨h1,h2,if_pos (.inr h2)⟩)
  · exact .inr (.inr ⟨h1,h2,if_neg (by rintro(h|h);exact h1 h;exact h2 h)⟩)
def abS(h0:c.k≠bM)(h1:c.k≠aY)(h:c.k=aW):(0<s.cG∧prev≠aW∧bE n i prev c s=none)∨(0<s.cG∧prev=aW∧bE n i prev c s=some {s with cG:=s.cG+1})∨(¬0<s.cG∧bE n i prev c s=some {s with cG:=s.cG+1}):=by
  unfold bE
  rw[if_neg h0,if_neg h1,if_pos h]
  by_cases h1:0<s.cG
  · by_cases h2:prev=aW
    · exact .inr (.inl ⟨h1,h2,if_neg (fun h=>h.2 h2)⟩)
    · exact .inl ⟨h1,h2,if_pos ⟨h1,h2⟩⟩
  · exact .inr (.inr ⟨h1,if_neg (fun h=>h1 h.1)⟩)
def acz(h0:c.k≠bM)(h1:c.k≠aY)(h2:c.k≠aW)(h:c.k=aR):(0<s.cG∧bE n i prev c s=none)∨(¬0<s.cG∧0<s.dT∧bE n i prev c s=none)∨(¬0<s.cG∧¬0<s.dT∧bE n i prev c s=some {s with eX:=s.eX+1}):=by
  unfold bE
  rw[if_neg h0,if_neg h1,if_neg h2,if_pos h]
  by_cases h1:0<s.cG
  · exact .inl ⟨h1,if_pos (.inl h1)⟩
  by_cases h2:0<s.dT
  · exact .inr (.inl ⟨h1,h2,if_pos (.inr h2)⟩)
  · exact .inr (.inr ⟨h1,h2,if_neg (by rintro(h|h);exact h1 h;exact h2 h)⟩)
def abK(h0:c.k≠bM)(h1:c.k≠aY)(h2:c.k≠aW)(h3:c.k≠aR)(h:c.k=ba):(0<s.cG∧bE n i prev c s=none)∨(¬0<s.cG∧bE n i prev c s=some {s with dT:=s.dT+1}):=by
  unfold bE
  rw[if_neg h0,if_neg h1,if_neg h2,if_neg h3,if_pos h]
  by_cases h1:0<s.cG
  · exact .inl ⟨h1,if_pos h1⟩
  · exact .inr ⟨h1,if_neg h1⟩
def acS(h0:c.k≠bM)(h1:c.k≠aY)(h2:c.k≠aW)(h3:c.k≠aR)(h4:c.k≠ba):(¬dp c.k∧bE n i prev c s=none)∨(dp c.k∧c.k.getD 0 0<97∧bE n i prev c s=none)∨(dp c.k∧¬c.k.getD 0 0<97∧bE n i prev c s=some s):=by
  unfold bE
  rw[if_neg h0,if_neg h1,if_neg h2,if_neg h3,if_neg h4]
  by_cases h5:dp c.k
  · by_cases h6:c.k.getD 0 0<97
    · refine .inr (.inl ⟨h5,h6,if_pos (.inr ⟨h5,?_⟩)⟩)
      have:c.k.getD 0 0∈c.k:=by
        have hl:=h5.1
        rw[List.getD_eq_getElem?_getD,List.getElem?_eq_getElem omg,Option.getD_some]
        exact List.getElem_mem _
      have:=h5.2 _ this
      unfold kv at this;omega
    · exact .inr (.inr ⟨h5,h6,if_neg (by rintro(h|h);exact h h5;have:=h.2;omega)⟩)
  · exact .inl ⟨h5,if_pos (.inl h5)⟩
def ab4(n i:Nat)(prev:List Int)(c:Ch)(s:Od):
    (c.k=bM∧0<i∧bE n i prev c s=none)∨(c.k=bM∧¬0<i∧c.d.length≠13∧bE n i prev c s=none)∨(c.k=bM∧¬0<i∧¬c.d.length≠13∧bE n i prev c s=some {s with eE:=s.eE+1})∨
    (c.k≠bM∧c.k=aY∧i+1<n∧bE n i prev c s=none)∨(c.k≠bM∧c.k=aY∧¬i+1<n∧0<c.d.length∧bE n i prev c s=none)∨(c.k≠bM∧c.k=aY∧¬i+1<n∧¬0<c.d.length∧bE n i prev c s=some {s with ends:=s.ends+1})∨
    (c.k≠bM∧c.k≠aY∧c.k=aW∧0<s.cG∧prev≠aW∧bE n i prev c s=none)∨(c.k≠bM∧c.k≠aY∧c.k=aW∧0<s.cG∧prev=aW∧bE n i prev c s=some {s with cG:=s.cG+1})∨(c.k≠bM∧c.k≠aY∧c.k=aW∧¬0<s.cG∧bE n i prev c s=some {s with cG:=s.cG+1})∨
    (c.k≠bM∧c.k≠aY∧c.k≠aW∧c.k=aR∧0<s.cG∧bE n i prev c s=none)∨(c.k≠bM∧c.k≠aY∧c.k≠aW∧c.k=aR∧¬0<s.cG∧0<s.dT∧bE n i prev c s=none)∨(c.k≠bM∧c.k≠aY∧c.k≠aW∧c.k=aR∧¬0<s.cG∧¬0<s.dT∧bE n i prev c s=some {s with eX:=s.eX+1})∨
    (c.k≠bM∧c.k≠aY∧c.k≠aW∧c.k≠aR∧c.k=ba∧0<s.cG∧bE n i prev c s=none)∨(c.k≠bM∧c.k≠aY∧c.k≠aW∧c.k≠aR∧c.k=ba∧¬0<s.cG∧bE n i prev c s=some {s with dT:=s.dT+1})∨
    (c.k≠bM∧c.k≠aY∧c.k≠aW∧c.k≠aR∧c.k≠ba∧¬dp c.k∧bE n i prev c s=none)∨(c.k≠bM∧c.k≠aY∧c.k≠aW∧c.k≠aR∧c.k≠ba∧dp c.k∧c.k.getD 0 0<97∧bE n i prev c s=none)∨(c.k≠bM∧c.k≠aY∧c.k≠aW∧c.k≠aR∧c.k≠ba∧dp c.k∧¬c.k.getD 0 0<97∧bE n i prev c s=some s):=by
  rcases kinds c.k with h|⟨h0,h⟩|⟨h0,h1,h⟩|⟨h0,h1,h2,h⟩|⟨h0,h1,h2,h3,h⟩|⟨h0,h1,h2,h3,h4⟩
  · have:=abL (n:=n) (i:=i) (prev:=prev) (s:=s) h;grind
  · have:=abO (n:=n) (i:=i) (prev:=prev) (s:=s) h0 h;grind
  · have:=abS (n:=n) (i:=i) (prev:=prev) (s:=s) h0 h1 h;grind
  · have:=acz (n:=n) (i:=i) (prev:=prev) (s:=s) h0 h1 h2 h;grind
  · have:=abK (n:=n) (i:=i) (prev:=prev) (s:=s) h0 h1 h2 h3 h;grind
  · have:=acS (n:=n) (i:=i) (prev:=prev) (s:=s) h0 h1 h2 h3 h4;grind
def oe6(s:Od):(s.eE≠1∧lD s=false)∨(¬s.eE≠1∧s.ends≠1∧lD s=false)∨(¬s.eE≠1∧¬s.ends≠1∧s.cG<1∧lD s=false)∨(¬s.eE≠1∧¬s.ends≠1∧¬s.cG<1∧1<s.eX∧lD s=false)∨
    (¬s.eE≠1∧¬s.ends≠1∧¬s.cG<1∧¬1<s.eX∧1<s.dT∧lD s=false)∨(¬s.eE≠1∧¬s.ends≠1∧¬s.cG<1∧¬1<s.eX∧¬1<s.dT∧lD s=true):=by
  unfold lD
  by_cases h1:s.eE≠1
  · exact .inl ⟨h1,by simp[h1]⟩
  by_cases h2:s.ends≠1
  · exact .inr (.inl ⟨h1,h2,by simp[h2]⟩)
  by_cases h3:s.cG<1
  · exact .inr (.inr (.inl ⟨h1,h2,h3,by rw[decide_eq_false (p:=1≤s.cG) omg];simp⟩))
  by_cases h4:1<s.eX
  · exact .inr (.inr (.inr (.inl ⟨h1,h2,h3,h4,by rw[decide_eq_false (p:=s.eX≤1) omg];simp⟩)))
  by_cases h5:1<s.dT
  · exact .inr (.inr (.inr (.inr (.inl ⟨h1,h2,h3,h4,h5,by rw[decide_eq_false (p:=s.dT≤1) omg];simp⟩))))
  · refine .inr (.inr (.inr (.inr (.inr ⟨h1,h2,h3,h4,h5,?_⟩))))
    rw[decide_eq_true (p:=s.eE=1) omg,decide_eq_true (p:=s.ends=1) omg,decide_eq_true (p:=1≤s.cG) omg,decide_eq_true (p:=s.eX≤1) omg,decide_eq_true (p:=s.dT≤1) omg]
    rfl
def oq{n i:Nat}{prev:List Int}{L:List Ch}{s:Od}{r:Bool}(hr:jK n i prev (L.drop i) s=r)(h:L.length≤i):r=lD s:=by
  rw[List.drop_eq_nil_of_le h,jK] at hr;exact hr.symm
def VP{k:List Int}{t:Bool}(ht:t=decide (dp k∧k.getD 0 0<97))(h:dp k):t=decide (k.getD 0 0<97):=by
  rw[ht]
  by_cases h9:k.getD 0 0<97
  · exact(decide_eq_true ⟨h,h9⟩).trans (decide_eq_true h9).symm
  · exact(decide_eq_false (fun hh=>h9 hh.2)).trans (decide_eq_false h9).symm
def Pg{k:List Int}{t:Bool}(ht:t=decide (dp k∧k.getD 0 0<97))(h:¬dp k):t=false:=ht.trans (decide_eq_false (fun hh=>h hh.1))
end Go.aa
namespace Go.aa
open Go.ag Go.Sl
def TF{a b A B:Int}(ha:0≤a∧a≤A)(hb:0≤b∧b≤B):0≤a*b∧a*b≤A*B:=⟨Int.mul_nonneg ha.1 hb.1,Int.mul_le_mul ha.2 hb.2 hb.1 omg⟩
def zP(w h:Int):(w<1∧bD w h=1)∨(¬w<1∧h<1∧bD w h=1)∨(¬w<1∧¬h<1∧256<w∧bD w h=6)∨(¬w<1∧¬h<1∧¬256<w∧256<h∧bD w h=6)∨(¬w<1∧¬h<1∧¬256<w∧¬256<h∧16384/h<w∧bD w h=6)∨(¬w<1∧¬h<1∧¬256<w∧¬256<h∧¬16384/h<w∧bD w h=0):=by
  unfold bD
  by_cases h1:w<1
  · exact .inl ⟨h1,if_pos (.inl h1)⟩
  by_cases h2:h<1
  · exact .inr (.inl ⟨h1,h2,if_pos (.inr h2)⟩)
  rw[if_neg omg]
  by_cases h3:256<w
  · exact .inr (.inr (.inl ⟨h1,h2,h3,if_pos (.inl h3)⟩))
  by_cases h4:256<h
  · exact .inr (.inr (.inr (.inl ⟨h1,h2,h3,h4,if_pos (.inr (.inl h4))⟩)))
  by_cases h5:16384/h<w
  · exact .inr (.inr (.inr (.inr (.inl ⟨h1,h2,h3,h4,h5,if_pos (.inr (.inr h5))⟩))))
  · exact .inr (.inr (.inr (.inr (.inr ⟨h1,h2,h3,h4,h5,if_neg (by rintro(h|h|h);exact h3 h;exact h4 h;exact h5 h)⟩))))
def jj{w h:Int}(hs:bD w h=0):1≤w∧w≤256∧1≤h∧h≤256∧1≤w*h∧w*h≤16384:=by
  rcases zP w h with h|h|h|h|h|⟨h1,h2,h3,h4,h5,_⟩<;>try omega
  have hm:w*h≤16384/h*h:=Int.mul_le_mul_of_nonneg_right omg omg
  have hd:16384/h*h≤16384:=Int.ediv_mul_le _ omg
  have hp:0<w*h:=Int.mul_pos omg omg
  omega
def oX{w h:Int}(hs:bD w h=0):4≤4*w*h∧4*w*h≤65536:=by
  have:=jj hs
  rw[Int.mul_assoc];omega
def sS{h:Int}(h1:1≤h):IntKind.i64.wrap ((16384:Int).tdiv h)=16384/h:=by
  rw[Int.tdiv_eq_ediv_of_nonneg dec]
  have:=Int.ediv_nonneg (a:=16384) (b:=h) dec omg
  have h2:16384/h≤16384:=Int.ediv_le_self _ dec
  exact gI omg omg
def jt (p:Ps):Prop:=0≤p.x∧p.x≤8∧0≤p.y∧p.y≤8∧(p.dx=1∨p.dx=2∨p.dx=4∨p.dx=8)∧(p.dy=1∨p.dy=2∨p.dy=4∨p.dy=8)∧0≤p.w∧p.w≤256∧0≤p.h∧p.h≤256
def mR{w bits:Int}(hw:0≤w∧w≤256)(hb:0≤bits∧bits≤64):0≤w*bits∧w*bits≤16384∧0≤eC w bits∧eC w bits≤2048:=by
  have:=TF hw hb
  unfold eC;omega
def vM (bits:Int) (p:Ps):Int:=if 0<p.w then p.h*(1+eC p.w bits) else 0
def Bz{p:Ps}{bits:Int}(hp:jt p)(hb:0≤bits∧bits≤64):0≤vM bits p∧vM bits p≤524544∧0≤p.h*(1+eC p.w bits)∧p.h*(1+eC p.w bits)≤524544:=by
  obtain⟨_,_,_,_,_,_,h1,h2,h3,h4⟩:=hp
  have hr:=mR (w:=p.w) ⟨h1,h2⟩ hb
  have:=TF (a:=p.h) (b:=1+eC p.w bits) ⟨h3,h4⟩ (B:=2049) omg
  unfold vM
  split<;>omega
def ri(l:List Ps)(bits:Int):eJ l bits=(l.map (vM bits)).sum:=rfl
def CH:∀(a b:List Int),(a++b).sum=a.sum+b.sum
  |[],b=>by simp
  |x::a,b=>by simp[CH a b];omega
def mZ{l:List Ps}{bits:Int}{i:Nat}(h:i<l.length):eJ (l.take (i+1)) bits=eJ (l.take i) bits+vM bits (l.getD i ⟨0,0,0,0,0,0⟩):=by
  rw[ri,ri,List.take_succ_eq_append_getElem h,List.map_append,CH,List.getD_eq_getElem?_getD,List.getElem?_eq_getElem h]
  simp
def sw{l:List Ps}{bits:Int}(hb:0≤bits∧bits≤64)(hl:∀p∈l,jt p):0≤eJ l bits∧eJ l bits≤524544*l.length:=by
  induction l with
  |nil=>simp[eJ]
  |cons p l ih=>
    have h1:=Bz (hl p (by simp)) hb
    have h2:=ih (fun q hq=>hl q (by simp[hq]))
    rw[ri] at h2 ⊢
    simp only[List.map_cons,List.sum_cons,List.length_cons]
    omega
def L6{p:Ps}{bits:Int}(h:0<p.w):vM bits p=p.h*(1+eC p.w bits):=if_pos h
def L7{p:Ps}{bits:Int}(h:¬0<p.w):vM bits p=0:=if_neg h
def HZ{x y dx dy w h:Int}(hx:0≤x∧x≤8)(hy:0≤y∧y≤8)(hdx:dx=1∨dx=2∨dx=4∨dx=8)(hdy:dy=1∨dy=2∨dy=4∨dy=8)(hw:0≤w∧w≤256)(hh:0≤h∧h≤256):jt (pK x y dx dy w h):=by
  have a:=tX (frm:=x) (e:=w) hdx
  have b:=tX (frm:=y) (e:=h) hdy
  have c:=tW (frm:=x) (e:=w) hx.1 hw.1 hdx
  have d:=tW (frm:=y) (e:=h) hy.1 hh.1 hdy
  exact⟨hx.1,hx.2,hy.1,hy.2,hdx,hdy,a,Int.le_trans c hw.2,b,Int.le_trans d hh.2⟩
def P8{w h:Int}(hw:0≤w∧w≤256)(hh:0≤h∧h≤256):∀p∈jb w h,jt p:=by
  intro p hp
  simp only[jb,List.mem_cons,List.not_mem_nil,or_false] at hp
  rcases hp with rfl|rfl|rfl|rfl|rfl|rfl|rfl<;>exact HZ dec dec dec dec hw hh
def Kb(w h:Int):(jb w h).length=7:=rfl
def Iz{w h:Int}(hw:0≤w∧w≤256)(hh:0≤h∧h≤256):(∀p∈fq w h,jt p)∧(fq w h).length≤7:=⟨fun p hp=>P8 hw hh p (List.mem_filter.1 hp).1,List.length_filter_le _ _⟩
def Ci{w h:Int}(hw:0≤w∧w≤256)(hh:0≤h∧h≤256):(∀p∈whole w h,jt p)∧(whole w h).length≤7:=⟨fun p hp=>by
  simp only[whole,List.mem_cons,List.not_mem_nil,or_false] at hp
  subst hp
  exact⟨Int.le_refl _,(by decide:(0:Int)≤8),Int.le_refl _,(by decide:(0:Int)≤8),.inl rfl,.inl rfl,hw.1,hw.2,hh.1,hh.2⟩,by simp[whole]⟩
def tq (p:Ps):Bool:=decide (0<p.w)&&decide (0<p.h)
def fp (w h:Int) (i:Nat):List Ps:=((jb w h).take i).filter tq
def JC(w h:Int):fp w h 7=fq w h:=rfl
def wX(w h:Int):fp w h 0=[]:=rfl
def AV(w h:Int)(i:Nat):(fp w h i).length≤i:=by
  have h1:=List.length_filter_le tq ((jb w h).take i)
  have h2:((jb w h).take i).length≤i:=by rw[List.length_take];omega
  exact Nat.le_trans h1 h2
def Gp{w h:Int}{i:Nat}(hi:i<7):fp w h (i+1)=fp w h i++(if tq ((jb w h).getD i ⟨0,0,0,0,0,0⟩) then [(jb w h).getD i ⟨0,0,0,0,0,0⟩] else []):=by
  unfold fp
  rw[List.take_succ_eq_append_getElem (show i<(jb w h).length from hi),List.filter_append,List.getD_eq_getElem?_getD,List.getElem?_eq_getElem (show i<(jb w h).length from hi),Option.getD_some]
  congr 1
  simp only[List.filter]
  split<;>simp_all
def G2(p:Ps):(¬0<p.w∧tq p=false)∨(0<p.w∧¬0<p.h∧tq p=false)∨(0<p.w∧0<p.h∧tq p=true):=by
  unfold tq
  by_cases h1:0<p.w
  · by_cases h2:0<p.h
    · exact .inr (.inr ⟨h1,h2,by simp[h1,h2]⟩)
    · exact .inr (.inl ⟨h1,h2,by simp[h2]⟩)
  · exact .inl ⟨h1,by simp[h1]⟩
def wj{w h:Int}{i:Nat}(hi:i<7){p:Ps}(hp:(jb w h).getD i ⟨0,0,0,0,0,0⟩=p)(ht:tq p=true):fp w h i++[p]=fp w h (i+1):=by rw[Gp hi,hp,if_pos ht]
def xf{w h:Int}{i:Nat}(hi:i<7){p:Ps}(hp:(jb w h).getD i ⟨0,0,0,0,0,0⟩=p)(ht:tq p=false):fp w h i=fp w h (i+1):=by rw[Gp hi,hp,if_neg (by rw[ht];decide),List.append_nil]
def D6{l:List Ps}(h:∀p∈l,jt p){i:Nat}(hi:i<l.length):jt (l.getD i ⟨0,0,0,0,0,0⟩):=by
  rw[List.getD_eq_getElem?_getD,List.getElem?_eq_getElem hi];exact h _ (List.getElem_mem hi)
def YS{step e:Int}(hs:step=1∨step=2∨step=4∨step=8)(frm:Int)(h:e≤frm):many frm step e=0:=if_pos h
def Nl{frm step e:Int}(h:¬e≤frm):many frm step e=(e-frm+step-1)/step:=if_neg h
def many1{e:Int}(h:1≤e):many 0 1 e=e:=by rw[Nl omg];omega
end Go.aa
namespace Go.aa
open Go.ag
def wY:List Ps:=[⟨0,0,8,8,0,0⟩,⟨4,0,8,8,0,0⟩,⟨0,4,4,8,0,0⟩,⟨2,0,4,4,0,0⟩,⟨0,2,2,4,0,0⟩,⟨1,0,2,2,0,0⟩,⟨0,1,1,2,0,0⟩]
def OQ(w h:Int):∀ {i:Nat},i<7→∀ {s:Ps},s=wY.getD i ⟨0,0,0,0,0,0⟩→(jb w h).getD i ⟨0,0,0,0,0,0⟩=pK s.x s.y s.dx s.dy w h∧(0≤s.x∧s.x≤8)∧(0≤s.y∧s.y≤8)∧(s.dx=1∨s.dx=2∨s.dx=4∨s.dx=8)∧(s.dy=1∨s.dy=2∨s.dy=4∨s.dy=8)∧s.w=0∧s.h=0
  |0,_,_,rfl|1,_,_,rfl|2,_,_,rfl|3,_,_,rfl|4,_,_,rfl|5,_,_,rfl|6,_,_,rfl=>⟨rfl,by decide,by decide,by decide,by decide,rfl,rfl⟩
  |n+7,h,_,_=>by omega
def NW{k:Nat}{d:Int}(hd:d=1∨d=2∨d=4∨d=8)(hk:k≤256):0≤(k:Int)*d∧(k:Int)*d≤2048:=by
  rcases hd with rfl|rfl|rfl|rfl<;>omega
def UF(f:Int)(k:Nat)(d:Int):f+(k:Int)*d+d=f+((k+1:Nat):Int)*d:=by
  rw[Int.natCast_succ,Int.add_mul,Int.one_mul,Int.add_assoc]
def Vn(f d:Int):f=f+((0:Nat):Int)*d:=by
  rw[Int.natCast_zero,Int.zero_mul,Int.add_zero]
def rX{frm step e:Int}{k:Nat}(hs:step=1∨step=2∨step=4∨step=8)(hk:(k:Int)≤many frm step e)(h:¬frm+(k:Int)*step<e):(k:Int)=many frm step e:=by
  have:=pZ (frm:=frm) (e:=e) (k:=k) hs omg
  omega
def tp(c:Int):(c=0∧parts c=1)∨(c≠0∧c=3∧parts c=1)∨(c≠0∧c≠3∧c=2∧parts c=3)∨(c≠0∧c≠3∧c≠2∧c=4∧parts c=2)∨(c≠0∧c≠3∧c≠2∧c≠4∧c=6∧parts c=4)∨(c≠0∧c≠3∧c≠2∧c≠4∧c≠6∧parts c=0):=by
  unfold parts
  by_cases h0:c=0
  · exact .inl ⟨h0,by simp[h0]⟩
  by_cases h3:c=3
  · exact .inr (.inl ⟨h0,h3,by simp[h3]⟩)
  by_cases h2:c=2
  · exact .inr (.inr (.inl ⟨h0,h3,h2,by simp[h2]⟩))
  by_cases h4:c=4
  · exact .inr (.inr (.inr (.inl ⟨h0,h3,h2,h4,by simp[h4]⟩)))
  by_cases h6:c=6
  · exact .inr (.inr (.inr (.inr (.inl ⟨h0,h3,h2,h4,h6,by simp[h6]⟩))))
  · exact .inr (.inr (.inr (.inr (.inr ⟨h0,h3,h2,h4,h6,by simp[h0,h3,h2,h4,h6]⟩))))
def YA(c d:Int):(c=0∧decide (deep c d)=decide (d∈([1,2,4,8,16]:List Int)))∨(c≠0∧c=3∧decide (deep c d)=decide (d∈([1,2,4,8]:List Int)))∨(c≠0∧c≠3∧¬0<parts c∧decide (deep c d)=false)∨(c≠0∧c≠3∧0<parts c∧d=8∧decide (deep c d)=true)∨(c≠0∧c≠3∧0<parts c∧¬d=8∧decide (deep c d)=decide (d=16)):=by
  by_cases h0:c=0
  · refine .inl ⟨h0,decide_eq_decide.2 ?_⟩
    unfold deep;simp[h0]
  by_cases h3:c=3
  · refine .inr (.inl ⟨h0,h3,decide_eq_decide.2 ?_⟩)
    unfold deep;simp[h3]
  by_cases hp:0<parts c
  · have hc:c=2∨c=4∨c=6:=by rcases tp c with h|h|h|h|h|h<;>omega
    by_cases h8:d=8
    · exact .inr (.inr (.inr (.inl ⟨h0,h3,hp,h8,decide_eq_true (.inr (.inr ⟨hc,.inl h8⟩))⟩)))
    · refine .inr (.inr (.inr (.inr ⟨h0,h3,hp,h8,decide_eq_decide.2 ?_⟩)))
      unfold deep
      exact⟨fun h=>by rcases h with h|h|h<;>omega,fun h=>.inr (.inr ⟨hc,.inr h⟩)⟩
  · refine .inr (.inr (.inl ⟨h0,h3,hp,decide_eq_false ?_⟩))
    unfold deep
    rintro(h|h|h)
    · exact h0 h.1
    · exact h3 h.1
    · have:0<parts c:=by rcases tp c with g|g|g|g|g|g<;>omega
      exact hp this
def U7{l:List Int}{x:Int}{i:Nat}(h:i<l.length)(e:x=l.getD i 0):x∈l:=by
  rw[e,List.getD_eq_getElem?_getD,List.getElem?_eq_getElem h];exact List.getElem_mem h
def PQ{l:List Int}{x:Int}(h:∀j,j<l.length→x≠l.getD j 0):x∉l:=fun hx=>by
  obtain⟨j,hj,e⟩:=List.getElem_of_mem hx
  refine h j hj ?_
  rw[List.getD_eq_getElem?_getD,List.getElem?_eq_getElem hj];exact e.symm
def O3{l:List Int}{x r:Int}{t:Bool}(ht:t=decide (x∈l))(h:0≤r↔x∈l):decide (0≤r)=t:=by rw[ht];exact decide_eq_decide.2 h
end Go.aa
namespace Go.aa
open Go.ag Go.Sl
def SE(a b:Int):(if a-b<b-a then b-a else a-b)=off a b:=by unfold off;split<;>omega
def S7(a b c:Int):(off (a+b-c) a≤off (a+b-c) b∧off (a+b-c) a≤off (a+b-c) c∧sD a b c=a)∨(off (a+b-c) a≤off (a+b-c) b∧¬off (a+b-c) a≤off (a+b-c) c∧off (a+b-c) b≤off (a+b-c) c∧sD a b c=b)∨(off (a+b-c) a≤off (a+b-c) b∧¬off (a+b-c) a≤off (a+b-c) c∧¬off (a+b-c) b≤off (a+b-c) c∧sD a b c=c)∨
    (¬off (a+b-c) a≤off (a+b-c) b∧off (a+b-c) b≤off (a+b-c) c∧sD a b c=b)∨(¬off (a+b-c) a≤off (a+b-c) b∧¬off (a+b-c) b≤off (a+b-c) c∧sD a b c=c):=by
  unfold sD
  by_cases h1:off (a+b-c) a≤off (a+b-c) b
  · by_cases h2:off (a+b-c) a≤off (a+b-c) c
    · exact .inl ⟨h1,h2,if_pos ⟨h1,h2⟩⟩
    · rw[if_neg (fun h=>h2 h.2)]
      by_cases h3:off (a+b-c) b≤off (a+b-c) c
      · exact .inr (.inl ⟨h1,h2,h3,if_pos h3⟩)
      · exact .inr (.inr (.inl ⟨h1,h2,h3,if_neg h3⟩))
  · rw[if_neg (fun h=>h1 h.1)]
    by_cases h3:off (a+b-c) b≤off (a+b-c) c
    · exact .inr (.inr (.inr (.inl ⟨h1,h3,if_pos h3⟩)))
    · exact .inr (.inr (.inr (.inr ⟨h1,h3,if_neg h3⟩)))
def uG (l:List Int) (j:Int):Int:=if j<0 then 0 else l.getD j.toNat 0
def ab3(l:List Int)(j:Int):(j<0∧uG l j=0)∨(¬j<0∧(l.length:Int)≤j∧uG l j=0)∨(¬j<0∧¬(l.length:Int)≤j∧uG l j=l.getD j.toNat 0):=by
  unfold uG
  by_cases h1:j<0
  · exact .inl ⟨h1,if_pos h1⟩
  rw[if_neg h1]
  by_cases h2:(l.length:Int)≤j
  · refine .inr (.inl ⟨h1,h2,?_⟩)
    rw[List.getD_eq_getElem?_getD,List.getElem?_eq_none omg];rfl
  · exact .inr (.inr ⟨h1,h2,rfl⟩)
def Ir(l:List Int)(i back:Nat):uG l ((i:Int)-(back:Int))=gz l i back:=by
  unfold uG gz
  by_cases h:i<back
  · rw[if_pos omg,if_pos h]
  · rw[if_neg omg,if_neg h,show((i:Int)-(back:Int)).toNat=i-back by omega]
def OK(l:List Int)(i:Nat):uG l (i:Int)=l.getD i 0:=by
  unfold uG;rw[if_neg omg,Int.toNat_natCast]
def Sm(kind a b c:Int):(kind=1∧qC kind a b c=a)∨(kind≠1∧kind=2∧qC kind a b c=b)∨(kind≠1∧kind≠2∧kind=3∧qC kind a b c=(a+b)/2)∨(kind≠1∧kind≠2∧kind≠3∧kind=4∧qC kind a b c=sD a b c)∨(kind≠1∧kind≠2∧kind≠3∧kind≠4∧qC kind a b c=0):=by
  unfold qC
  by_cases h1:kind=1
  · exact .inl ⟨h1,if_pos h1⟩
  rw[if_neg h1]
  by_cases h2:kind=2
  · exact .inr (.inl ⟨h1,h2,if_pos h2⟩)
  rw[if_neg h2]
  by_cases h3:kind=3
  · exact .inr (.inr (.inl ⟨h1,h2,h3,if_pos h3⟩))
  rw[if_neg h3]
  by_cases h4:kind=4
  · exact .inr (.inr (.inr (.inl ⟨h1,h2,h3,h4,if_pos h4⟩)))
  · exact .inr (.inr (.inr (.inr ⟨h1,h2,h3,h4,if_neg h4⟩)))
def Mj{l:List Int}{i back:Nat}(h:i<back):gz l i back=0:=if_pos h
def MK{l:List Int}{i back:Nat}(h:back≤i):gz l i back=l.getD ((i:Int)-(back:Int)).toNat 0:=by
  unfold gz;rw[if_neg omg,show((i:Int)-(back:Int)).toNat=i-back by omega]
def TC(i back:Nat):gz [] i back=0:=by unfold gz;split<;>rfl
def jY (kind:Int) (row above:List Int) (back i:Nat):List Int:=gq kind row above back i++List.replicate (row.length-i) 0
def KK{kind:Int}{row above:List Int}{back i:Nat}(h:i≤row.length):(jY kind row above back i).length=row.length:=by
  unfold jY;rw[List.length_append,jr,List.length_replicate];omega
def VJ(kind:Int)(row above:List Int)(back:Nat):jY kind row above back 0=List.replicate row.length 0:=by simp[jY,gq]
def KT(kind:Int)(row above:List Int)(back:Nat):jY kind row above back row.length=ee kind row above back:=by simp[jY,ee]
def LZ{kind:Int}{row above:List Int}{back i:Nat}:aq (jY kind row above back i):=fun x hx=>by
  rcases List.mem_append.1 hx with h|h
  · exact rQ kind row above back i x h
  · rw[List.eq_of_mem_replicate h];decide
def tR{a:List Int}{x v:Int}{b:List Int}{i:Nat}(ha:a.length=i):(a++x::b).set i v=a++v::b:=by
  subst ha;rw[List.set_append_right _ _ (Nat.le_refl _),Nat.sub_self];rfl
def Ks{kind:Int}{row above:List Int}{back i:Nat}(h:i<row.length):(jY kind row above back i).set i (iY kind row above back (gq kind row above back i) i)=jY kind row above back (i+1):=by
  unfold jY
  rw[show row.length-i=(row.length-(i+1))+1 by omega,List.replicate_succ,tR (jr ..),gq,List.append_assoc]
  rfl
def Ra{kind:Int}{row above:List Int}{back i:Nat}(hb:0<back):gz (jY kind row above back i) i back=gz (gq kind row above back i) i back:=H8 (jr ..) hb
def hH (kind:Int) (row above:List Int) (back i:Nat):List Int:=gq kind row above back i++row.drop i
def Ke{kind:Int}{row above:List Int}{back i:Nat}(h:i≤row.length):(hH kind row above back i).length=row.length:=by
  unfold hH;rw[List.length_append,jr,List.length_drop];omega
def R4(kind:Int)(row above:List Int)(back:Nat):hH kind row above back 0=row:=by simp[hH,gq]
def KP(kind:Int)(row above:List Int)(back:Nat):hH kind row above back row.length=ee kind row above back:=by simp[hH,ee]
def JP{kind:Int}{row above:List Int}{back i:Nat}(h:aq row):aq (hH kind row above back i):=fun x hx=>by
  rcases List.mem_append.1 hx with g|g
  · exact rQ kind row above back i x g
  · exact h x (List.mem_of_mem_drop g)
def PU{kind:Int}{row above:List Int}{back i:Nat}(h:i<row.length):(hH kind row above back i).getD i 0=row.getD i 0:=by
  unfold hH
  rw[List.getD_eq_getElem?_getD,List.getD_eq_getElem?_getD,List.getElem?_append_right (by rw[jr];omega),jr,Nat.sub_self,List.getElem?_drop,Nat.add_zero]
def JM{kind:Int}{row above:List Int}{back i:Nat}(h:i<row.length):(hH kind row above back i).set i (iY kind row above back (gq kind row above back i) i)=hH kind row above back (i+1):=by
  unfold hH
  rw[List.drop_eq_getElem_cons h,tR (jr ..),gq,List.append_assoc]
  rfl
def PV{kind:Int}{row above:List Int}{back i:Nat}(hb:0<back):gz (hH kind row above back i) i back=gz (gq kind row above back i) i back:=H8 (jr ..) hb
def CQ{kind:Int}{row above:List Int}{back i:Nat}{x y:Int}(hx:x=row.getD i 0)(hy:y=qC kind (gz (gq kind row above back i) i back) (above.getD i 0) (gz above i back)):(x+y)%256=iY kind row above back (gq kind row above back i) i:=by rw[hx,hy];rfl
end Go.aa
namespace Go.aa
open Go.ag Go.Sl
def tN(B:List Int)(a:Nat){n:Nat}(hn:n≤24):0≤cL B a n∧cL B a n<16777216:=by
  have h:=n5 B a n
  have h2:(2:Nat)^n≤2^24:=Nat.pow_le_pow_right dec hn
  have h3:(2:Int)^n=((2^n:Nat):Int):=by simp
  rw[h3] at h
  omega
def Yw{B:List Int}{a k:Nat}(hk:k≤24):IntKind.i64.wrap (cL B a k*2^(min (1:Int).toNat IntKind.i64.bits))=2*cL B a k:=by
  have h:=tN B a hk
  exact Wt h.1 omg
def orH{B:List Int}{a k:Nat}(hk:k≤24):IntKind.i64.wrap ((BitVec.ofInt IntKind.i64.bits (2*cL B a k)|||BitVec.ofInt IntKind.i64.bits (gn B (a+k))).toNat:Int)=cL B a (k+1):=by
  have h:=tN B a hk
  rw[Io h.1 omg (od _ _)]
  rfl
def jz (d:Int):Prop:=d=1∨d=2∨d=4∨d=8∨d=16
def up (d v:Int):Int:=v*(65535/(2^d.toNat-1))
def lQ{d:Int}(h:jz d):(2:Int)≤2^d.toNat∧(2:Int)^d.toNat≤65536:=by rcases h with rfl|rfl|rfl|rfl|rfl<;>decide
def iz{d:Int}(h:jz d):1≤d∧d≤16:=by rcases h with rfl|rfl|rfl|rfl|rfl<;>decide
def ym{d:Int}(h:jz d):IntKind.i64.wrap (1*2^(min d.toNat IntKind.i64.bits))=2^d.toNat:=by rcases h with rfl|rfl|rfl|rfl|rfl<;>decide
def fO{c d:Int}(h:deep c d):jz d:=by
  unfold deep at h
  unfold jz
  omega
def l7{c d:Int}(h:deep c d):1≤parts c∧parts c≤4∧1≤parts c*d∧parts c*d≤64:=by
  unfold deep at h
  rcases h with⟨rfl,h⟩|⟨rfl,h⟩|⟨rfl|rfl|rfl,h⟩
  · rw[show parts 0=1 from rfl];omega
  · rw[show parts 3=1 from rfl];omega
  · rw[show parts 2=3 from rfl];omega
  · rw[show parts 4=2 from rfl];omega
  · rw[show parts 6=4 from rfl];omega
def FD{d v:Int}(h:jz d)(h0:0≤v)(h1:v<2^d.toNat):0≤up d v∧up d v≤65535:=by
  unfold up
  rcases h with rfl|rfl|rfl|rfl|rfl
  · have:v<2:=h1;simp;omega
  · have:v<4:=h1;simp;omega
  · have:v<16:=h1;simp;omega
  · have:v<256:=h1;simp;omega
  · have:v<65536:=h1;simp;omega
def up_mul{d v P:Int}(hP:P=2^d.toNat)(h:jz d)(h0:0≤v)(h1:v<P):IntKind.i64.wrap (v*(65535/(P-1)))=up d v:=by
  subst hP
  have:=FD h h0 h1
  unfold up at this ⊢
  exact gI omg omg
def ml{n:Int}(h:0≤n∧n≤65535):IntKind.u16.wrap n=n:=by
  have:IntKind.u16.wrap n=n%65536:=rfl
  omega
def up8(x:Int):up 8 x=x*257:=by unfold up;rfl
def P1{d:Int}(h:jz d):d=1∨(d≠1∧d=2)∨(d≠1∧d≠2∧d=4)∨(d≠1∧d≠2∧d≠4∧d=8)∨(d≠1∧d≠2∧d≠4∧d≠8∧d=16):=by
  unfold jz at h
  omega
def qc{w h x y:Int}(hx:0≤x∧x<w)(hy:0≤y∧y<h):0≤y*w∧0≤y*w+x∧y*w+x+1≤w*h:=by
  have h1:0≤y*w:=Int.mul_nonneg hy.1 omg
  have h2:(y+1)*w≤h*w:=Int.mul_le_mul_of_nonneg_right omg omg
  rw[Int.add_mul,Int.one_mul,Int.mul_comm h w] at h2
  omega
def atP (w:Int) (cN:List Int) (x y:Int):List Int:=(cN.drop (4*(y*w+x)).toNat).take 4
def uS{w:Int}{cN:List Int}{x y:Int}{c:List Int}(hc:c.length=4)(h:(4*(y*w+x)).toNat+4≤cN.length):(ko w cN x y c).length=cN.length:=by
  simp[ko,hc]
  omega
def jG (w1 h1:Int) (n1:Nat) (w2 h2:Int) (n2:Nat) (L1 L2:List Int):Prop:=(bD w1 h1=0∧(n1:Int)=4*w1*h1)∧(bD w2 h2=0∧(n2:Int)=4*w2*h2)∧w1=w2∧h1=h2∧L1=L2
def XF(w1 h1:Int)(n1:Nat)(w2 h2:Int)(n2:Nat)(L1 L2:List Int):
    (¬(bD w1 h1=0∧(n1:Int)=4*w1*h1)∧¬jG w1 h1 n1 w2 h2 n2 L1 L2)∨
    ((bD w1 h1=0∧(n1:Int)=4*w1*h1)∧¬(bD w2 h2=0∧(n2:Int)=4*w2*h2)∧¬jG w1 h1 n1 w2 h2 n2 L1 L2)∨
    ((bD w1 h1=0∧(n1:Int)=4*w1*h1)∧(bD w2 h2=0∧(n2:Int)=4*w2*h2)∧w1≠w2∧¬jG w1 h1 n1 w2 h2 n2 L1 L2)∨
    ((bD w1 h1=0∧(n1:Int)=4*w1*h1)∧(bD w2 h2=0∧(n2:Int)=4*w2*h2)∧w1=w2∧h1≠h2∧¬jG w1 h1 n1 w2 h2 n2 L1 L2)∨
    ((bD w1 h1=0∧(n1:Int)=4*w1*h1)∧(bD w2 h2=0∧(n2:Int)=4*w2*h2)∧w1=w2∧h1=h2∧n1=n2):=by
  by_cases a:(bD w1 h1=0∧(n1:Int)=4*w1*h1)
  · by_cases b:(bD w2 h2=0∧(n2:Int)=4*w2*h2)
    · by_cases c:w1=w2
      · by_cases d:h1=h2
        · exact .inr (.inr (.inr (.inr ⟨a,b,c,d,by subst c;subst d;omega⟩)))
        · exact .inr (.inr (.inr (.inl ⟨a,b,c,d,fun h=>d h.2.2.2.1⟩)))
      · exact .inr (.inr (.inl ⟨a,b,c,fun h=>c h.2.2.1⟩))
    · exact .inr (.inl ⟨a,b,fun h=>b h.2.1⟩)
  · exact .inl ⟨a,fun h=>a h.1⟩
def Nq{L1 L2:List Int}{i:Nat}(h:L1.getD i 0≠L2.getD i 0):L1≠L2:=fun e=>h (by rw[e])
def GP{L1 L2:List Int}(hl:L1.length=L2.length)(h:∀j,j<L1.length→L1.getD j 0=L2.getD j 0):L1=L2:=by
  refine List.ext_getElem hl fun j h1 h2=>?_
  have:=h j h1
  rwa [List.getD_eq_getElem?_getD,List.getD_eq_getElem?_getD,List.getElem?_eq_getElem h1,List.getElem?_eq_getElem h2] at this
end Go.aa
namespace Go.aa
open Go.ag Go.Sl
def ea(l:List Int)(n i:Nat):(l.drop n).getD i 0=l.getD (n+i) 0:=by simp[List.getD_eq_getElem?_getD,List.getElem?_drop]
def Va{B:List Int}(hB:aq B)(j:Nat):cL B (8*j) 16*65536+cL B (8*j+16) 16=aC.bN (B.drop j):=by
 rw[tV (hB.get _) (hB.get _),show 8*j+16=8*(j+2) by omega,tV (hB.get _) (hB.get _)]
 unfold aC.bN
 rw[ea,ea,ea,ea]
 simp only[Nat.add_zero]
 rw[show j+2+1=j+3 from rfl]
 omega
def Fk(B:List Int)(a:Nat):0≤cL B a 16∧cL B a 16<65536:=by have:=n5 B a 16;omega
def iE (B:List Int) (a:Nat):Nat→Int
 |0=>0
 |n+1=>iE B a n*256+B.getD (a+n) 0
def UH{B:List Int}(hB:aq B)(a:Nat):∀n:Nat,n≤4→0≤iE B a n∧iE B a n<4294967296∧(n≤3→iE B a n<16777216)
 |0,_=>by unfold iE;omega
 |1,_=>by have:=hB.get (a+0);simp only[iE];omega
 |2,_=>by have:=hB.get (a+0);have:=hB.get (a+1);simp only[iE];omega
 |3,_=>by have:=hB.get (a+0);have:=hB.get (a+1);have:=hB.get (a+2);simp only[iE];omega
 |4,_=>by have:=hB.get (a+0);have:=hB.get (a+1);have:=hB.get (a+2);have:=hB.get (a+3);simp only[iE];omega
def Nk(B:List Int)(a:Nat):iE B a 4=aC.bN (B.drop a):=by
 unfold aC.bN
 rw[ea,ea,ea,ea]
 simp only[iE]
 omega
def MG(B:List Int)(a:Nat):iE B a 2=B.getD a 0*256+B.getD (a+1) 0:=by simp only[iE,Nat.add_zero];omega
def L8 (B:List Int):Hd:=if eH B=0 then aH B else⟨0,0,0,0,false⟩
def pE{B:List Int}(h:eH B=0):L8 B=aH B:=if_pos h
def jI{B:List Int}{e:Int}(h:eH B=e)(he:e≠0):L8 B=⟨0,0,0,0,false⟩:=if_neg (by rw[h];exact he)
def uy(B:List Int):(B.length≠13∧eH B=4)∨
  (¬B.length≠13∧¬deep (aH B).ak (aH B).dep∧eH B=4)∨
  (¬B.length≠13∧deep (aH B).ak (aH B).dep∧0<B.getD 10 0+B.getD 11 0∧eH B=4)∨
  (¬B.length≠13∧deep (aH B).ak (aH B).dep∧¬0<B.getD 10 0+B.getD 11 0∧1<B.getD 12 0∧eH B=4)∨
  (¬B.length≠13∧deep (aH B).ak (aH B).dep∧¬0<B.getD 10 0+B.getD 11 0∧¬1<B.getD 12 0∧(aH B).w=0∧eH B=4)∨
  (¬B.length≠13∧deep (aH B).ak (aH B).dep∧¬0<B.getD 10 0+B.getD 11 0∧¬1<B.getD 12 0∧¬(aH B).w=0∧(aH B).h=0∧eH B=4)∨
  (¬B.length≠13∧deep (aH B).ak (aH B).dep∧¬0<B.getD 10 0+B.getD 11 0∧¬1<B.getD 12 0∧¬(aH B).w=0∧¬(aH B).h=0∧bD (aH B).w (aH B).h≠0∧eH B=6)∨
  (¬B.length≠13∧deep (aH B).ak (aH B).dep∧¬0<B.getD 10 0+B.getD 11 0∧¬1<B.getD 12 0∧¬(aH B).w=0∧¬(aH B).h=0∧¬bD (aH B).w (aH B).h≠0∧eH B=0):=by
 unfold eH
 by_cases h0:B.length≠13
 ·exact .inl ⟨h0,if_pos h0⟩
 refine .inr ?_
 rw[if_neg h0]
 by_cases h1:deep (aH B).ak (aH B).dep
 case neg=>exact .inl ⟨h0,h1,if_pos (.inl h1)⟩
 refine .inr ?_
 by_cases h2:0<B.getD 10 0+B.getD 11 0
 ·exact .inl ⟨h0,h1,h2,if_pos (.inr (.inl h2))⟩
 refine .inr ?_
 by_cases h3:1<B.getD 12 0
 ·exact .inl ⟨h0,h1,h2,h3,if_pos (.inr (.inr (.inl h3)))⟩
 refine .inr ?_
 by_cases h4:(aH B).w=0
 ·exact .inl ⟨h0,h1,h2,h3,h4,if_pos (.inr (.inr (.inr (.inl h4))))⟩
 refine .inr ?_
 by_cases h5:(aH B).h=0
 ·exact .inl ⟨h0,h1,h2,h3,h4,h5,if_pos (.inr (.inr (.inr (.inr h5))))⟩
 refine .inr ?_
 rw[if_neg (fun h=>by
  rcases h with h|h|h|h|h
  ·exact h h1
  ·exact h2 h
  ·exact h3 h
  ·exact h4 h
  ·exact h5 h)]
 by_cases h6:bD (aH B).w (aH B).h=0
 ·exact .inr ⟨h0,h1,h2,h3,h4,h5,fun h=>h h6,if_pos h6⟩
 ·exact .inl ⟨h0,h1,h2,h3,h4,h5,h6,if_neg h6⟩
def fW (c d:Int):Prop:=if c=0 then d=1∨d=2∨d=4∨d=8∨d=16 else if c=2∨c=4∨c=6 then d=8∨d=16 else if c=3 then d=1∨d=2∨d=4∨d=8 else d=8
instance (c d:Int):Decidable (fW c d):=by unfold fW;infer_instance
def X4{c d:Int}(h:c=0):fW c d↔(d=1∨d=2∨d=4∨d=8∨d=16):=by unfold fW;rw[if_pos h]
def Xy{c d:Int}(h0:c≠0)(h:c=2∨c=4∨c=6):fW c d↔(d=8∨d=16):=by unfold fW;rw[if_neg h0,if_pos h]
def XQ{c d:Int}(h:c=3):fW c d↔(d=1∨d=2∨d=4∨d=8):=by unfold fW;rw[if_neg omg,if_neg omg,if_pos h]
def K6(c d:Int):deep c d↔fW c d∧parts c≠0:=by
 by_cases h0:c=0
 ·subst h0
  rw[X4 rfl,show parts 0=1 from rfl]
  unfold deep
  omega
 ·by_cases h2:c=2∨c=4∨c=6
  ·rw[Xy h0 h2]
   have:parts c≠0:=by rcases h2 with rfl|rfl|rfl<;>decide
   unfold deep
   omega
  ·by_cases h3:c=3
   ·subst h3
    rw[XQ rfl,show parts 3=1 from rfl]
    unfold deep
    omega
   ·have:parts c=0:=by unfold parts;rw[if_neg omg,if_neg omg,if_neg omg,if_neg omg]
    rw[this]
    unfold deep
    omega
def abX{B:List Int}(hB:aq B)(h0:¬B.length≠13):
  (¬fW (aH B).ak (aH B).dep∧eH B=4)∨
  (fW (aH B).ak (aH B).dep∧parts (aH B).ak=0∧eH B=4)∨
  (fW (aH B).ak (aH B).dep∧¬parts (aH B).ak=0∧B.getD 10 0≠0∧eH B=4)∨
  (fW (aH B).ak (aH B).dep∧¬parts (aH B).ak=0∧¬B.getD 10 0≠0∧B.getD 11 0≠0∧eH B=4)∨
  (fW (aH B).ak (aH B).dep∧¬parts (aH B).ak=0∧¬B.getD 10 0≠0∧¬B.getD 11 0≠0∧1<B.getD 12 0∧eH B=4)∨
  (fW (aH B).ak (aH B).dep∧¬parts (aH B).ak=0∧¬B.getD 10 0≠0∧¬B.getD 11 0≠0∧¬1<B.getD 12 0∧(aH B).w=0∧eH B=4)∨
  (fW (aH B).ak (aH B).dep∧¬parts (aH B).ak=0∧¬B.getD 10 0≠0∧¬B.getD 11 0≠0∧¬1<B.getD 12 0∧¬(aH B).w=0∧(aH B).h=0∧eH B=4)∨
  (fW (aH B).ak (aH B).dep∧¬parts (aH B).ak=0∧¬B.getD 10 0≠0∧¬B.getD 11 0≠0∧¬1<B.getD 12 0∧¬(aH B).w=0∧¬(aH B).h=0∧bD (aH B).w (aH B).h≠0∧eH B=bD (aH B).w (aH B).h∧eH B≠0)∨
  (fW (aH B).ak (aH B).dep∧¬parts (aH B).ak=0∧¬B.getD 10 0≠0∧¬B.getD 11 0≠0∧¬1<B.getD 12 0∧¬(aH B).w=0∧¬(aH B).h=0∧¬bD (aH B).w (aH B).h≠0∧eH B=0):=by
 have hd:=K6 (aH B).ak (aH B).dep
 have b10:=hB.get 10;have b11:=hB.get 11
 rcases uy B with h|⟨_,h1,h⟩|⟨_,h1,h2,h⟩|⟨_,h1,h2,h3,h⟩|⟨_,h1,h2,h3,h4,h⟩|⟨_,h1,h2,h3,h4,h5,h⟩|⟨_,h1,h2,h3,h4,h5,h6,h⟩|⟨_,h1,h2,h3,h4,h5,h6,h⟩
 ·exact absurd h.1 h0
 ·by_cases ho:fW (aH B).ak (aH B).dep
  ·by_cases hp:parts (aH B).ak=0
   ·exact .inr (.inl ⟨ho,hp,h⟩)
   ·exact absurd (hd.2 ⟨ho,hp⟩) h1
  ·exact .inl ⟨ho,h⟩
 ·obtain⟨ho,hp⟩:=hd.1 h1
  by_cases h10:B.getD 10 0≠0
  ·exact .inr (.inr (.inl ⟨ho,hp,h10,h⟩))
  ·exact .inr (.inr (.inr (.inl ⟨ho,hp,h10,omg,h⟩)))
 ·obtain⟨ho,hp⟩:=hd.1 h1
  exact .inr (.inr (.inr (.inr (.inl ⟨ho,hp,omg,omg,h3,h⟩))))
 ·obtain⟨ho,hp⟩:=hd.1 h1
  exact .inr (.inr (.inr (.inr (.inr (.inl ⟨ho,hp,omg,omg,h3,h4,h⟩)))))
 ·obtain⟨ho,hp⟩:=hd.1 h1
  exact .inr (.inr (.inr (.inr (.inr (.inr (.inl ⟨ho,hp,omg,omg,h3,h4,h5,h⟩))))))
 ·obtain⟨ho,hp⟩:=hd.1 h1
  refine .inr (.inr (.inr (.inr (.inr (.inr (.inr (.inl ⟨ho,hp,omg,omg,h3,h4,h5,h6,?_,omg⟩)))))))
  rcases zP (aH B).w (aH B).h with⟨q,e⟩|⟨_,q,e⟩|⟨_,_,q,e⟩|⟨_,_,_,q,e⟩|⟨_,_,_,_,q,e⟩|⟨_,_,_,_,_,e⟩
  ·have hw:0≤(aH B).w:=(qf (L:=B) hB).1
   omega
  ·have hh:0≤(aH B).h:=(qf (L:=B.drop 4) (cA hB 4)).1
   omega
  ·rw[h,e]
  ·rw[h,e]
  ·rw[h,e]
  ·exact absurd e h6
 ·obtain⟨ho,hp⟩:=hd.1 h1
  exact .inr (.inr (.inr (.inr (.inr (.inr (.inr (.inr ⟨ho,hp,omg,omg,h3,h4,h5,h6,h⟩)))))))
def OG{L:List Int}{c:Ch}(hL:aq L)(h:first L=.ok c):aq c.k∧c.k.length<500000000:=by
 unfold first at h
 split at h
 ·cases h
 ·split at h
  ·cases h
  ·split at h
   ·cases h
   ·split at h
    ·cases h
     exact⟨fun x hx=>hL x (List.mem_of_mem_drop (List.mem_of_mem_take hx)),by simp only[List.length_take];omega⟩
    ·cases h
def IW:∀ {f:Nat} {L:List Int} {a l:List Ch},aq L→(∀c∈a,aq c.k∧c.k.length<500000000)→gi f L a=.ok l→∀c∈l,aq c.k∧c.k.length<500000000
 |0,L,a,l,_,_,h=>by cases h
 |f+1,L,a,l,hL,ha,h=>by
  rw[gi] at h
  split at h
  ·cases h
  ·rename_i c hc
   have hd:=OG hL hc
   have ha2:∀y∈a++[c],aq y.k∧y.k.length<500000000:=fun y hy=>by
    rcases List.mem_append.1 hy with hy|hy
    ·exact ha y hy
    ·rw[List.mem_singleton.1 hy];exact hd
   split at h
   ·split at h
    ·cases h;exact ha2
    ·cases h
   ·exact IW (fun x hx=>hL x (List.mem_of_mem_drop hx)) ha2 h
def Yg{B:List Int}{l:List Ch}(hB:aq B)(h:cut B=.ok l):∀c∈l,aq c.k∧c.k.length<500000000:=by
 unfold cut at h
 split at h
 ·cases h
 ·split at h
  ·cases h
  ·split at h
   ·exact IW (fun x hx=>hB x (List.mem_of_mem_drop hx)) (fun c hc=>by cases hc) h
   ·cases h
def kn (l:List Ch):Nat:=(l.map (·.d.length)).sum
def K3(a:List Ch)(c:Ch):kn (a++[c])=kn a+c.d.length:=by simp[kn]
def LP{L:List Int}{c:Ch}(h:first L=.ok c):12+c.d.length≤L.length:=by
 unfold first at h
 split at h
 ·cases h
 ·rename_i h12
  split at h
  ·cases h
  ·split at h
   ·cases h
   ·rename_i h3
    split at h
    ·cases h
     simp only[List.length_take,List.length_drop]
     omega
    ·cases h
def Ao:∀ {f:Nat} {L:List Int} {a l:List Ch},gi f L a=.ok l→kn l≤kn a+L.length
 |0,L,a,l,h=>by cases h
 |f+1,L,a,l,h=>by
  rw[gi] at h
  split at h
  ·cases h
  ·rename_i c hc
   have hd:=LP hc
   have hs:=K3 a c
   split at h
   ·split at h
    ·cases h;omega
    ·cases h
   ·have:=Ao h
    rw[List.length_drop] at this
    omega
def ot{B:List Int}{l:List Ch}(h:cut B=.ok l):kn l≤B.length:=by
 unfold cut at h
 split at h
 ·cases h
 ·split at h
  ·cases h
  ·split at h
   ·have:=Ao h
    rw[List.length_drop] at this
    have e0:kn []=0:=rfl
    omega
   ·cases h
def mA:∀l:List Ch,(bS l).length≤kn l
 |[]=>by simp[bS,kn]
 |c::l=>by
  have ih:=mA l
  unfold bS at ih ⊢
  rw[List.filter_cons]
  have e:kn (c::l)=c.d.length+kn l:=by simp[kn]
  split
  ·simp only[List.flatMap_cons,List.length_append];omega
  ·omega
def jd{l:List Ch}{k:List Int}:(bY l k).length≤kn l:=by
 unfold bY
 split
 ·rename_i c hc
  have hm:=List.mem_of_find?_eq_some hc
  unfold kn
  clear hc
  induction l with
  |nil=>cases hm
  |cons a l ih=>
   rw[List.map_cons,List.sum_cons]
   rcases List.mem_cons.1 hm with rfl|hm
   ·omega
   ·have:=ih hm;omega
 ·simp
end Go.aa
namespace Go.aa
open Go.ag Go.Sl
def hd7{B:List Int}(h0:¬B.length≠13):
  (¬B.length≠13∧¬deep (aH B).ak (aH B).dep∧eH B=4)∨
  (¬B.length≠13∧deep (aH B).ak (aH B).dep∧0<B.getD 10 0+B.getD 11 0∧eH B=4)∨
  (¬B.length≠13∧deep (aH B).ak (aH B).dep∧¬0<B.getD 10 0+B.getD 11 0∧1<B.getD 12 0∧eH B=4)∨
  (¬B.length≠13∧deep (aH B).ak (aH B).dep∧¬0<B.getD 10 0+B.getD 11 0∧¬1<B.getD 12 0∧(aH B).w=0∧eH B=4)∨
  (¬B.length≠13∧deep (aH B).ak (aH B).dep∧¬0<B.getD 10 0+B.getD 11 0∧¬1<B.getD 12 0∧¬(aH B).w=0∧(aH B).h=0∧eH B=4)∨
  (¬B.length≠13∧deep (aH B).ak (aH B).dep∧¬0<B.getD 10 0+B.getD 11 0∧¬1<B.getD 12 0∧¬(aH B).w=0∧¬(aH B).h=0∧bD (aH B).w (aH B).h≠0∧eH B=6)∨
  (¬B.length≠13∧deep (aH B).ak (aH B).dep∧¬0<B.getD 10 0+B.getD 11 0∧¬1<B.getD 12 0∧¬(aH B).w=0∧¬(aH B).h=0∧¬bD (aH B).w (aH B).h≠0∧eH B=0):=(uy B).resolve_left (fun h=>h0 h.1)
def o8{x:Int}(h:0≤x∧x<256):IntKind.i64.wrap x=x:=gI omg omg
def X8(c:Int):c=0∨(¬c=0∧c=2)∨(¬c=0∧¬c=2∧c=4)∨(¬c=0∧¬c=2∧¬c=4∧c=6)∨(¬c=0∧¬c=2∧¬c=4∧¬c=6∧c=3)∨(¬c=0∧¬c=2∧¬c=4∧¬c=6∧¬c=3):=omg
def xq{B:List Int}(h:B.length≠13):eH B=4:=by unfold eH;rw[if_pos h]
def ig{c d:Int}(h:fW c d):true=decide (fW c d):=(decide_eq_true h).symm
def ER{c d:Int}{p:Prop}[Decidable p](h:p↔fW c d):decide p=decide (fW c d):=decide_eq_decide.2 h
instance (w1 h1:Int) (n1:Nat) (w2 h2:Int) (n2:Nat) (L1 L2:List Int):Decidable (jG w1 h1 n1 w2 h2 n2 L1 L2):=by unfold jG;infer_instance
end Go.aa

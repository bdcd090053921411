/- What functions answer. No condition. -/
import Derived.Test.YtnmamncmpklliaaGreatDoorWorkE
import Derived.Test.YtnmamncmpklliaaGreatDoorWorkF
set_option linter.unusedSimpArgs false
set_option linter.unusedVariables false
set_option maxRecDepth 100000
set_option maxHeartbeats 16000000
namespace Go.Proofs.YtnmamncmpklliaaGreatDoor
variable{n j N lc bo v:Nat}{p part k b rep size id x a dir q:Int}{y r s:al}{c:cg}{d:cB}{P:Program}{Q:c3}{α:a8}{H:ab}{A B:List aH}{C:Int->Prop}{G:bF->Prop}{br:List Int}{f:FuncId}{F:Func}
open Go.Proofs.Tryz
def kO(n:Nat):al:=if n=0 then[]else kO (n / 128)++[UInt8.ofNat (n % 128+128)]
termination_by n
decreasing_by omega
def bT(n:Nat):al:=kO (n / 128)++[UInt8.ofNat (n % 128)]
def dj(t:al):al:=bT t.length++t
theorem HW(h:n<256):(UInt8.ofNat n).toNat=n:=nP
theorem aFI(m):∀(_:m<=72057594037927935) (y),oS 0 true (kO m++y)=if m=0 then oS 0 true y else oS m false y:=by
 induction m using Nat.strongRecOn with
 |ind m U=>
  intro hm y;unfold kO;by_cases ay:m=0
  ·rw[aC ay,aC ay];rfl
  ·rw[ar ay,ar ay,c6,U (m / 128) gf gf,KU];have J:=HW (n:=m % 128+128) gf;by_cases h1:m / 128=0
   ·rw[aC h1,oS,J,ar nc,ar gf,show 0 * 128+(((m % 128+128:Nat))-128)=(m:Int) by omega]
   ·rw[ar h1,oS,J,ar j9,ar gf,show((m / 128:Nat)) * 128+(((m % 128+128:Nat))-128)=(m:Int) by omega]
theorem xM(n)(af:n<=9223372036854775807)(y):dS (bT n++y)=some ((n:Int),y):=by
 unfold dS bT;rw[c6,aFI _ gf,KU];have J:=HW (n:=n % 128) gf;by_cases h1:n / 128=0
 ·rw[aC h1,oS,J,ar j9,aC gf,show 0 * 128+((n % 128:Nat))=(n:Int) by omega]
 ·rw[ar h1,oS,J,ar j9,aC gf,show((n / 128:Nat)) * 128+((n % 128:Nat))=(n:Int) by omega]
theorem aK9(n)(y:al):bT n++y≠[]:=by unfold bT;simp
theorem V9(t y)(h:t.length<=9223372036854775807):ix (dj t++y)=some (t,y):=by unfold ix dj;rw[c6,xM _ h];simp only[bw];rw[ar gf,h5,yn,BI]
def la(p part:Int)(r:al):Option (al×al):=if eg .and .i64 p part=0 then some ([],r)else ix r
def ua(p:Int)(r:al):Option (Int×al):=if eg .and .i64 p 8=0 then some (0,r)else dS r
def k5(b:al):Option (cg×al):=
 (dS b).bind fun(k,bd)=>(py k).bind λp=>(la p 1 bd).bind fun(a,aS)=>(la p 2 aS).bind fun(t,aY)=>(la p 4 aY).bind fun(d,a6)=>(ua p a6).bind fun(n,bb)=>if kY ⟨k,a,t,d,n⟩=true then some (⟨k,a,t,d,n⟩,bb)else none
def pD(p part:Int)(t:al):al:=if eg .and .i64 p part=0 then[]else dj t
def rk(p n:Int):al:=if eg .and .i64 p 8=0 then[]else bT n.toNat
def ub(c:cg):al:=match py c.kind with
 |none=>[]
 |some p=>bT c.kind.toNat++(pD p 1 c.path++(pD p 2 c.to++(pD p 4 c.data++rk p c.n)))
structure KW (c:cg):Prop where
 path:c.path.length<=9223372036854775807
 to:c.to.length<=9223372036854775807
 data:c.data.length<=9223372036854775807
 n:c.n<=9223372036854775807
theorem PB{t:al}{r:Bool}(J:ng p part r (decide<|t=[])=true)(h:t.length<=9223372036854775807):la p part (pD p part t++y)=some (t,y):=by
 unfold la pD;unfold ng at J;split
 ·rename_i ay;rw[aC ay]at J;rw[nI J];rfl
 ·exact V9 t y h
theorem aHg{n:Int}(J:ng p 8 (decide<|0<=n) (decide<|n=0)=true)(h:n<=9223372036854775807):ua p (rk p n++y)=some (n,y):=by
 unfold ua rk;unfold ng at J;split
 ·rename_i ay;rw[aC ay]at J;rw[nI J];rfl
 ·rename_i ay;rw[ar ay]at J;rw[xM _ gf,Hd<|nI J]
theorem NY(h:py k=some p):1<=k/\k<=13:=by
 unfold py at h
 (repeat' split at h)<;>first|omega|cases h
theorem aGU(hm:KW c)(h:kY c=true)(y):k5 (ub c++y)=some (c,y):=by
 have J:=h;unfold kY at J;unfold k5 ub;cases ad:py c.kind with
 |none=>rw[ad]at J;cases J
 |some p=>rw[ad]at J;simp only[dp]at J;obtain⟨f1,f2,f3,f4⟩:=J;obtain⟨k1,k2⟩:=NY ad;simp only[c6];rw[xM _ gf,Hd gf];simp;rw[ad];simp;rw[PB f1 hm.path];simp only[e6];rw[PB f2 hm.to];simp only[e6];rw[PB f3 hm.data];simp only[e6];rw[aHg f4 hm.n];simp only[e6];rw[aC h]
theorem GF{b:al}{n:Int}(h:dS b=some (n,r)):0<=n/\n<=9223372036854775807:=Up _ _ _ _ _ (jU 0) h
theorem Uq{b t:al}(h:ix b=some (t,r)):t.length+r.length<=b.length/\r.length<b.length:=by
 unfold ix at h;split at h
 ·cases h
 ·rename_i n U J;have:=hg J;split at h
  ·cases h
  ·cases h;simp;omega
theorem wh{b t:al}(h:la p part b=some (t,r)):t.length+r.length<=b.length:=by
 unfold la at h;split at h
 ·cases h;simp
 ·exact(Uq h).1
theorem aFJ{b:al}(h:k5 b=some (c,r))(K:b.length<=9223372036854775807):r.length<b.length/\KW c/\kY c=true:=by
 unfold k5 at h;simp only[kv,sE]at h;obtain⟨k,O,ay,p,ad,a,S,h1,t,T,h2,d,a6,h3,n,bb,h4,J⟩:=h;have V:=hg ay;have ax:=wh h1;have Z:=wh h2;have aU:=wh h3;have bf:bb.length<=a6.length/\n<=9223372036854775807:=by
  unfold ua at h4;split at h4
  ·cases h4;exact⟨bh _,ko⟩
  ·exact⟨Nat.le_of_lt<|hg h4,(GF h4).2⟩
 split at J
 ·rename_i U;cases J;exact⟨gf,⟨by simp only;omega,j9,by simp only;omega,bf.2⟩,U⟩
 ·cases J
structure Ord where
 kind:Int
 call:cg
 pick:Int
 cC:al
deriving DecidableEq,Inhabited
def da(o:Ord):I:=.agg [.int .i64 o.kind,.int .i64 o.call.kind,.str o.call.path,.str o.call.to,.str o.call.data,.int .i64 o.call.n,.int .i64 o.pick,.str o.cC]
@[go_sem] theorem aWY(x:Ord):b9 (da x)=True:=by simp[da,go_sem]
def gF(o:Ord):Bool:=
 if o.kind=1 then kY o.call&&(decide (o.pick=0)&&decide (o.cC=[]))
 else if o.kind=2 then decide (0<=o.pick)&&(decide (o.call=eK)&&decide (o.cC=[]))
 else if o.kind=3 then decide (o.call=eK)&&(decide (o.pick=0)&&decide (o.cC=[]))
 else if o.kind=4 then decide ((o.cC.length:Int)<=300)&&(decide (o.call=eK)&&decide (o.pick=0))
 else false
def sA(o:Ord):al:=bT o.kind.toNat++if o.kind=1 then ub o.call else if o.kind=2 then bT o.pick.toNat else if o.kind=4 then dj o.cC else[]
def na(b:al):Option (Ord×al):=(dS b).bind fun(k,r)=>
 (if k=1 then(k5 r).map λx=>((⟨k,x.1,0,[]⟩:Ord),x.2)else if k=2 then(dS r).map λx=>(⟨k,eK,x.1,[]⟩,x.2)else if k=4 then(ix r).map λx=>(⟨k,eK,0,x.1⟩,x.2)else some (⟨k,eK,0,[]⟩,r)).bind λx=>if gF x.1=true then some x else none
structure BR (o:Ord):Prop where
 call:KW o.call
 pick:o.pick<=9223372036854775807
 cC:o.cC.length<=9223372036854775807
theorem Xk(o)(y:al):sA o++y≠[]:=by unfold sA;rw[c6];exact aK9 _ _
theorem aGV{o:Ord}(hm:BR o)(h:gF o=true)(y):na (sA o++y)=some (o,y):=by
 obtain⟨k,c,p,s⟩:=o;obtain⟨m1,m2,m3⟩:=hm;have J:=h;unfold gF at J;unfold na sA;simp only at J m1 m2 m3 ⊢;by_cases k1:k=1
 ·subst k1;rw[aC rfl]at J;simp only[dp,iK]at J;obtain⟨K,rfl,rfl⟩:=J;rw[c6,xM _ ko];simp only[e6,Int.toNat_one,Int.natCast_one,aC];rw[aGU m1 K];simp only[vj,e6];exact aC h
 rw[ar k1]at J;by_cases k2:k=2
 ·subst k2;rw[aC rfl]at J;simp only[dp,iK]at J;obtain⟨K,rfl,rfl⟩:=J;rw[c6,xM _ ko];have U:(((2:Int).toNat))=2:=rfl;simp only[e6,U,Int.reduceEq,reduceIte];rw[xM _ gf,Hd K];exact aC h
 rw[ar k2]at J;by_cases k3:k=3
 ·subst k3;rw[aC rfl]at J;simp only[dp,iK]at J;obtain⟨rfl,rfl,rfl⟩:=J;rw[c6,xM _ ko];have U:(((3:Int).toNat):Int)=3:=rfl;simp only[e6,U,Int.reduceEq,reduceIte,jb];exact aC h
 rw[ar k3]at J;by_cases k4:k=4
 ·subst k4;rw[aC rfl]at J;simp only[dp,iK]at J;obtain⟨K,rfl,rfl⟩:=J;rw[c6,xM _ ko];have U:(((4:Int).toNat))=4:=rfl;simp only[e6,U,Int.reduceEq,reduceIte];rw[V9 _ _ m3];simp only[vj,e6];exact aC h
 rw[ar k4]at J;cases J
theorem Q5:KW eK:=⟨ko,ko,ko,ko⟩
theorem Gq{b:al}{o:Ord}(h:na b=some (o,r))(O:b.length<=9223372036854775807):r.length<b.length/\BR o/\gF o=true:=by
 unfold na at h;simp only[kv,sE]at h;obtain⟨k,S,ay,T,V,h1,h2⟩:=h;have Z:=hg ay;split at h2
 ·rename_i K;cases h2;refine⟨?_,?_,K⟩;all_goals
   by_cases k1:k=1
   ·rw[aC k1]at h1;simp only[gA,sE,DS]at h1;obtain⟨x,J,h3,rfl,rfl⟩:=h1;obtain⟨U,a2,a3⟩:=aFJ h3 gf;first|omega|exact⟨a2,by show 0<=_;decide,cb _⟩
   rw[ar k1]at h1;by_cases k2:k=2
   ·rw[aC k2]at h1;simp only[gA,sE,DS]at h1;obtain⟨x,J,h3,rfl,rfl⟩:=h1;have U:=hg h3;have a2:=GF h3;first|omega|exact⟨Q5,a2.2,cb _⟩
   rw[ar k2]at h1;by_cases k4:k=4
   ·rw[aC k4]at h1;simp only[gA,sE,DS]at h1;obtain⟨x,J,h3,rfl,rfl⟩:=h1;have U:=Uq h3;first|omega|exact⟨Q5,by show 0<=_;decide,j9⟩
   rw[ar k4]at h1;cases h1;first|omega|exact⟨Q5,by show 0<=_;decide,cb _⟩
 ·cases h2
def mC:Nat->al->Option (List Ord)
 |0,b=>if b=[]then some []else none
 |k+1,b=>if b=[]then some []else(na b).bind λx=>(mC k x.2).map (x.1::·)
def sI(l:List Ord):al:=l.flatMap sA
def oP(rep size:Int)(l:List Ord):Option al:=
 if(decide (0<=rep)&&(decide (rep<=63)&&(decide (0<=size)&&(decide (size<=1000)&&l.all gF))))=true then some (bT rep.toNat++(bT size.toNat++sI l))else none
def k6(b:al):Option (Int×Int×List Ord):=
 (dS b).bind λx=>(dS x.2).bind λy=>(mC y.2.length y.2).bind λl=>if oP x.1 y.1 l=some b then some (x.1,y.1,l)else none
theorem Ur(o)(l):sI (o::l)=sA o++sI l:=rfl
theorem Wv(l):l.length<=(sI l).length:=by
 induction l with
 |nil=>exact bh _
 |cons o l J=>have:=nH.2<|Xk o [];rw[cE]at this;rw[Ur,bw,cd];omega
theorem Wa:∀(l:List Ord) (k:Nat),(∀o∈l,BR o)->l.all gF=true->l.length<=k->mC k (sI l)=some l
 |[],k,_,_,_=>by cases k<;>rfl
 |o::l,0,_,_,h=>j9
 |o::l,k+1,hm,J,h=>by
  rw[List.all_cons,dp]at J;rw[mC,Ur,ar<|Xk _ _,aGV (hm o hW) J.1]
  simp only[e6];rw[Wa l k (λo h=>hm o j9) J.2 j9];rfl
theorem Ww:∀(k:Nat) (b:al) (l:List Ord),b.length<=9223372036854775807->mC k b=some l->(∀o∈l,BR o)/\l.all gF=true
 |0,b,l,_,h=>by
  rw[mC]at h;split at h
  ·cases h;exact⟨λo U=>(p2 U),rfl⟩
  ·cases h
 |k+1,b,l,K,h=>by
  rw[mC]at h;split at h
  ·cases h;exact⟨λo U=>(p2 U),rfl⟩
  ·simp[kv]at h;obtain⟨o,r,h1,m,h2,rfl⟩:=h;obtain⟨ax,O,aU⟩:=Gq h1 K;obtain⟨i1,i2⟩:=Ww k r m gf h2;refine⟨λx J=>?_,j9⟩;rcases db.1 J with rfl|J
   ·exact O
   ·exact i1 x J
theorem NZ{l:List Ord}{w:al}(h:oP rep size l=some w):0<=rep/\rep<=63/\0<=size/\size<=1000/\l.all gF=true/\w=bT rep.toNat++(bT size.toNat++sI l):=by
 unfold oP at h;split at h
 ·rename_i J;simp only[dp,iK]at J;exact⟨J.1,J.2.1,J.2.2.1,J.2.2.2.1,J.2.2.2.2,(tH h).symm⟩
 ·cases h
theorem aFc{l:List Ord}{w:al}(hm:∀o∈l,BR o)(h:oP rep size l=some w):k6 w=some (rep,size,l):=by obtain⟨J,O,U,s1,K,e⟩:=NZ h;unfold k6;rw[e]at h ⊢;rw[xM _ gf];simp only[e6];rw[xM _ gf];simp only[e6];rw[Wa l _ hm K (Wv l),Hd J,Hd U];exact aC h
theorem Wx{b:al}{r s:Int}{l:List Ord}(J:b.length<=9223372036854775807)(h:k6 b=some (r,s,l)):oP r s l=some b/\∀o∈l,BR o:=by
 unfold k6 at h;simp only[kv,sE]at h;obtain⟨x,U,ay,y,K,h1,m,h2,h3⟩:=h;split at h3
 ·rename_i hw;cases h3;have O:=hg ay;have ax:=hg h1;exact⟨hw,(Ww _ _ _ gf h2).1⟩
 ·cases h3
def gM(n:Nat):Nat:=(bT n).length
def Ae(n i:Nat):UInt8:=UInt8.ofNat<|n / 128 ^ (gM n-1-i) % 128+if i<gM n-1 then 128 else 0
theorem aGW(n:Nat):(kO n).length=if n=0 then 0 else gM n:=by
 unfold gM bT;rw[kO];split
 ·rfl
 ·simp
theorem Oo(n):gM n=if n<=127 then 1 else gM (n / 128)+1:=by
 unfold gM bT;simp;rw[aGW];by_cases h:n<=127
 ·rw[aC h,aC gf]
 ·rw[ar h,ar gf];unfold gM bT;simp
theorem Wb(n):1<=gM n:=by unfold gM bT;simp
theorem aGX(n):∀i,i<(kO n).length->(kO n)[i]?=some (UInt8.ofNat<|n / 128 ^ ((kO n).length-1-i) % 128+128):=by
 induction n using Nat.strongRecOn with
 |ind n J=>
  intro i hi;unfold kO at hi ⊢;by_cases ay:n=0
  ·rw[aC ay]at hi;simp at hi
  ·rw[ar ay]at hi ⊢;simp only[bw,List.length_singleton]at hi ⊢;by_cases h:i<(kO (n / 128)).length
   ·rw[jc h,J (n / 128) gf i h];rw[Nat.div_div_eq_div_mul,show(kO (n / 128)).length+1-1-i=(kO (n / 128)).length-1-i+1 by omega,Nat.pow_succ,Nat.mul_comm 128]
   ·have U:i=(kO (n / 128)).length:=gf;subst U;simp
theorem aGY(n i)(hi:i<gM n):(bT n)[i]?=some (Ae n i):=by
 unfold Ae;have hl:gM n=(kO (n / 128)).length+1:=by unfold gM bT;simp
 unfold bT;by_cases h:i<(kO (n / 128)).length
 ·rw[jc h,aGX _ _ h,aC gf,Nat.div_div_eq_div_mul,hl,show(kO (n / 128)).length+1-1-i=(kO (n / 128)).length-1-i+1 by omega,Nat.pow_succ,Nat.mul_comm 128]
 ·have J:i=(kO (n / 128)).length:=gf;subst J;rw[hl];simp
theorem aFK(n i)(hi:i<gM n):(bT n).take (i+1)=(bT n).take i++[Ae n i]:=by have:=aGY n i hi;rw[Hj,this];rfl
theorem Di(n)(h:n<=9223372036854775807):gM n<=9:=by
 have key:∀k n,n<128 ^ (k+1)->gM n<=k+1:=by
  intro k;induction k with
  |zero=>intro n af;rw[Oo,aC gf];exact bh _
  |succ k J=>
   intro n af;rw[Oo];split
   ·omega
   ·have:=J (n / 128) j9;omega
 exact key 8 n gf
theorem aEe{m:Nat}(h:m<=9223372036854775807):eg .and .i64 (m:Int) 127=((m % 128:Nat):Int):=by have J:BitVec.ofInt 64 (m:Int)=BitVec.ofNat 64 m:=KT ..;have ax:BitVec.ofInt 64 (127:Int)=BitVec.ofNat 64 127:=rfl;show IntKind.i64.wrap ((BitVec.ofInt 64 (m:Int)&&&BitVec.ofInt 64 (127:Int)).toNat:Int)=_;rw[ax,J,BitVec.toNat_and,Ha,Ha,Hk gf,Hk gf];have aU:=Nat.and_two_pow_sub_one_eq_mod m 7;rw[show 127=2 ^ 7-1 by omega,aU,bS]
theorem aEM{d:Nat}(h:d<128):eg .or .i64 d 128=((d+128:Nat)):=by
 have:=PA (n:=1) gf gf h;have J:BitVec.ofInt 64 d=BitVec.ofNat 64 d:=KT ..;have ax:BitVec.ofInt 64 128=BitVec.ofNat 64 128:=rfl;show IntKind.i64.wrap ((BitVec.ofInt 64 d|||BitVec.ofInt 64 128).toNat)=_
 change IntKind.i64.wrap ((BitVec.ofInt 64 (1 * 128)|||BitVec.ofInt 64 d).toNat)=_ at this
 rw[show(1 * 128:Int)=128 by omega,ax,J,BitVec.or_comm]at this
 rw[ax,J];omega
theorem Xl(U:j<=9):((n:Int)).fdiv (2 ^ min ((7 * (j:Int)).toNat) 64)=((n / 128 ^ j:Nat)):=by
 have J:j=0\/j=1\/j=2\/j=3\/j=4\/j=5\/j=6\/j=7\/j=8\/j=9:=gf;rcases J with rfl|rfl|rfl|rfl|rfl|rfl|rfl|rfl|rfl|rfl;all_goals
  rw[Int.fdiv_eq_ediv_of_nonneg _ hW];simp
theorem Xm(t:al)(x:UInt8):ck (t++[x])=ck t++[.int .u8 x.toNat]:=by simp[ck]
def QD(n:Int)(k:Nat):UInt8:=UInt8.ofNat (IntKind.u8.wrap<|n.fdiv (2 ^ min k 32)).toNat
def yJ(n:Int):al:=[QD n 24,QD n 16,QD n 8,UInt8.ofNat (IntKind.u8.wrap n).toNat]
def sB(n:Int):Int:=eg .xor .u32 (IntKind.u32.wrap (n * 2 ^ min 1 32))<|if n.fdiv (2 ^ min 31 32)=0 then 0 else 79764919
def Af:Nat->Int->Int
 |0,n=>n
 |k+1,n=>Af k<|sB n
def Ag(n:Int)(c:UInt8):Int:=Af 8<|eg .xor .u32 n (IntKind.u32.wrap (IntKind.u32.wrap c.toNat * 2 ^ min 24 32))
def uc(s:al):Int:=s.foldl Ag 4294967295
def se(s:al):al:=s++yJ (uc s)
structure pK where
 at_:Int
 data:al
deriving DecidableEq,Inhabited
structure gh where
 size:Int
 jJ:al
 loose:List pK
deriving DecidableEq,Inhabited
def fa(p:pK):I:=.agg [.int .i64 p.at_,.str p.data]
@[go_sem] theorem aXC(x:pK):b9 (fa x)=True:=by simp only[fa,go_sem]
def ha(f:Bool)(d:gh):I:=.agg [.int .i64 d.size,.str d.jJ,.sl f<|d.loose.map fa]
def fM(n:Nat):al:=List.replicate n 0
theorem Gr(n:Nat):(fM n).length=n:=zI
theorem aEf(n:Nat):(List.replicate n (I.int .u8 0)).flatMap I.cells=ck (fM n):=by
 unfold fM ck;rw[List.map_replicate];induction n with
 |zero=>rfl
 |succ n J=>rw[zH,nj,J];rfl
theorem aEN(n:Nat):List.take (n * 1) (ck<|fM n)=ck (fM n):=qy<|by rw[qO,Gr];omega
theorem aEg(n:Nat):(List.replicate n (I.agg [.int .u8 0,.int .u8 0,.int .u8 0,.int .u8 0,.int .u8 0,.int .u8 0,.int .u8 0,.int .u8 0,.int .u8 0,.int .u8 0,.int .u8 0,.int .u8 0,.int .u8 0,.int .u8 0,.int .u8 0,.int .u8 0])).flatMap I.cells=ck (fM<|n * 16):=by
 induction n with
 |zero=>rfl
 |succ n J=>rw[zH,nj,J,o2,Nat.add_comm];unfold fM;rw[<-List.replicate_append_replicate,wE];rfl
theorem Us(t u:al)(off:Nat):du (ck t) off (ck u)=ck (t.take off++(u++t.drop (off+u.length))):=by unfold du ck;simp
attribute [go_sem] Gr aEf aEN aEg
def dz(s:al):Nat:=(s.length+15) / 16
def yK(s:al):al:=s.take 16++fM (16-s.length)
def jR(s:al):List al:=(List.range (dz s)).map λi=>yK<|s.drop (i * 16)
def sf(t:al)(off:Nat)(s:al):al:=t.take off++(s.take (t.length-off)++t.drop (off+s.length))
def qs(size:Int):gh:=⟨min (max size 0) 65536,fM<|(min (max size 0) 65536).toNat * 16,[]⟩
def wH(n:Int)(p:pK):Bool:=decide (0<=p.at_)&&(decide (p.at_<n)&&decide (p.data.length=16))
def qM(d:gh):Bool:=decide (0<=d.size)&&(decide (d.size<=65536)&&(decide ((d.jJ.length:Int)=d.size * 16)&&d.loose.all (wH d.size)))
def l5(d:gh)(a n:Nat):al:=d.loose.foldl (fun(t:al) (p:pK)=>if(a:Int)<=p.at_/\p.at_<a+n then sf t ((p.at_.toNat-a) * 16) p.data else t)<|(d.jJ.drop (a * 16)).take (n * 16)
def qf(at_:Nat)(l:List al):List pK:=(List.range l.length).map λi=>⟨(at_+i:Nat),l.getD i []⟩
def pw(d:gh)(at_:Int)(s:al):gh×Int:=
 if at_<0 then(d,121)else if d.size-dz s<at_ then(d,120)else({d with loose:=d.loose++qf at_.toNat (jR s)},0)
def nR(d:gh):gh:=⟨d.size,l5 d 0 d.size.toNat,[]⟩
def GW(pick:Nat)(t:al)(p:pK):al:=
 if pick=1 then sf (sf t (p.at_.toNat * 16+8)<|p.data.drop 8) (p.at_.toNat * 16) (p.data.take 8)else if pick=2 then sf t (p.at_.toNat * 16) (p.data.take 8)else t
def DM(cC:al)(i:Nat):Nat:=(cC.getD i 0).toNat % 3
def wk(cC:al):Nat->List pK->al->al
 |_,[],t=>t
 |i,p::l,t=>wk cC (i+1) l<|GW (DM cC i) t p
def qN(d:gh)(cC:al):gh:=⟨d.size,wk cC 0 d.loose d.jJ,[]⟩
def zB(n:Nat):UInt8:=UInt8.ofNat<|n % 250+1
def zk:Nat->al->List al
 |0,_=>[]
 |k+1,b=>if b=[]then[]else b.take 14::zk k (b.drop 14)
def wx(b:al):List al:=zk b.length b
def qQ(m:UInt8)(p:al):al:=m::(p++(fM (14-p.length)++[m]))
def qg(n:Nat)(p:al):al:=dj<|se (bT n++dj p)
def wJ(n:Nat)(p:al):al:=(wx (qg n p)).flatMap<|qQ (zB n)
def hE(n:Int)(p:al):al×Int:=if n<1\/1000000<n\/40000<p.length then([],130)else(wJ n.toNat p,0)
structure cj where
 bG:gh
 seq:Int
 base:Int
 next:Int
 end_:Int
 eB:Int
 kept:Int
 waits:List al
 iQ:Bool
 marked:Int
 fP:Int
 lg:Int
deriving DecidableEq,Inhabited
def ei(f g:Bool)(w:cj):I:=.agg [.int .i64 w.bG.size,.str w.bG.jJ,.sl f<|w.bG.loose.map fa,.int .i64 w.seq,.int .i64 w.base,.int .i64 w.next,.int .i64 w.end_,.int .i64 w.eB,.int .i64 w.kept,.sl g<|w.waits.map I.str,.bool w.iQ,.int .i64 w.marked,.int .i64 w.fP,.int .i64 w.lg]
def tN:cj:=⟨⟨0,[],[]⟩,0,0,0,0,0,0,[],false,0,0,0⟩
def bY(size:Nat):Nat:=size / 4
def hV(size seq:Nat):Nat:=if seq % 2=0 then 0 else bY size
def nb(base:Nat)(state:al):al:=bT base++dj state
theorem Wy{id J:Nat}{x y:Code}{ι:Type}(F:ι->a8)(U:ι->ab)(pre:ι->Prop)(h1:cF P N x (ri id<|xd F U pre (ri J (wN P N y Q))) α H)(h2:∀i,pre i->cF P N y Q (F i) (U i)):cF P N x (ri id<|ri J (wN P N y Q)) α H:=by
 refine Bv h1 λe K H' h=>?_;have key:xd F U pre (ri J<|wN P N y Q) .normal K H'->cF P N y Q K H':=fun⟨i,ad,hs,hH⟩=>by subst hH;exact Ke (h2 i ad)<|xu hs
 cases e with
 |normal=>exact key h
 |exit j=>
  simp only[ri]at h ⊢;cases O:j==id with
  |true=>rw[O]at h;exact key h
  |false=>rw[O]at h;exact h
 |_=>exact h
theorem aJA(n:Nat)(af:n<=9223372036854775807)(H:ab):aO prog 92 [.int .i64 n] H (.int .i64<|gM n):=by
 refine bg func92 ?_;have ay:decide ((n:Int)<0)=false:=dA;refine hH ?_;refine c7 (ι:=Nat×Nat) (λs=>[(0,.int .i64 s.1),(2,.int .i64 0),(3,.int .i64 s.2)]) (λ_=>H) (λs=>s.1<=9223372036854775807/\s.2<=100/\gM n+1=s.2+gM s.1) (λs=>s.1) (n,1) ⟨af,hW,by simp only;omega⟩ ?_ rfl ?_
 ·simp[go_sem]
 rintro⟨m,k⟩ ⟨hm,hk,hs⟩;simp only at hm hk hs ⊢;have U:(m:Int).fdiv (2 ^ min 7 64)=((m / 128:Nat):Int):=by have:=Xl (n:=m) (j:=1) gf;rw[Nat.pow_one]at this;exact this
 by_cases h:m<=127
 ·have h1:decide ((127:Int)<(m:Int))=false:=dA;rw[Oo m,aC h]at hs;refine hH ?_;exact bJ<|.of (by rw[show gM n=k by omega])
 ·have h1:decide ((127:Int)<(m:Int))=true:=cS;rw[Oo m,ar h]at hs;have ad:=Wb<|m / 128;have J:=Di n af;have hw:IntKind.i64.wrap ((k:Int)+1)=((k+1:Nat):Int):=by rw[bS];omega
  repeat' first|(refine ae ?_;simp only[go_sem,h1,hw])|refine ai ?_|fail
  exact⟨(m / 128,k+1),⟨by simp only;omega,by simp only;omega,by simp only;omega⟩,by simp only;omega,b7 _ U,rfl⟩
theorem Yl(b:al)(l:List Nat)(f:Bool)(hl:∀n∈l,n<=9223372036854775807)(aa:b.length+9 * l.length<=140737488355328)(H:ab):
  aO prog 49 [.str b,.sl f<|l.map fun(n:Nat)=>I.int .i64 n] H (.aN [.str (b++l.flatMap bT),.int .i64 0]):=by
 refine bg func49 ?_;refine a7 ?_;obtain⟨L,Z⟩:∃L,L=l.map fun(n:Nat)=>I.int .i64 n:=⟨_,rfl⟩;have z:L.length=l.length:=by rw[Z,dq]
 obtain⟨D,J⟩:∃D:Nat->al,∀j,D j=(l.take j).flatMap bT:=⟨_,λ_=>rfl⟩;have rV:∀j,j<=l.length->(D j).length<=9 * j:=by
  intro j;induction j with
  |zero=>intro _;rw[J];simp
  |succ j aB=>
   intro au;have h1:l.take (j+1)=l.take j++[l[j]]:=by rw[Hj,dn au];rfl
   have h2:=aB gf;rw[J]at h2 ⊢;rw[h1,qx,bw];have h3:=Di l[j] (hl _ (fQ _));unfold gM at h3;simp only[nj,DQ,cE];omega
 refine n8 (ι:=Unit) (λ_=>[(4,.str []),(5,.int .i64 0),(6,.osl 1 H.length ((D l.length).length+1) 0 (b.length+(D l.length).length)<|b.length+(D l.length).length)]) (λ_=>H++[.cells ((D l.length).length+1) (ck<|b++D l.length)]) (λ_=>True) ?_ λ_ _=>?_
 ·refine c7 (ι:=Nat) (λj=>[(0,.str b),(1,.sl f L),(4,.str []),(5,.int .i64 0),(6,.osl 1 H.length ((D j).length+1) 0 (b.length+(D j).length)<|b.length+(D j).length),(14,.sl f L),(15,.int .i64 l.length),(16,.int .i64 j)])
   (λj=>H++[.cells ((D j).length+1) (ck<|b++D j)]) (λj=>j<=l.length) (λj=>l.length-j) 0 (cb _) ?_ ?_ ?_
  ·have:D 0=[]:=by rw[J];rfl
   simp[go_sem,this,Z]
  ·have:D 0=[]:=by rw[J];rfl
   simp[this,ck]
  intro j au;by_cases xD:j<l.length
  ·have af:=hl l[j] (fQ _);obtain⟨n,aT⟩:∃n,n=l[j]:=⟨_,rfl⟩;rw[<-aT]at af;have bl:decide ((j:Int)<(l.length:Int))=true:=cS;have aP:L.getD j .top=.int .i64 (n:Int):=by rw[Z,gg,nk,dn xD,aT];rfl
   have oL:decide ((n:Int)<0)=false:=dA;have hs:=aJA n af;have pe:(j<L.length)=True:=b1 gf;repeat' first|(refine ae ?_;simp only[go_sem,bl,aP,oL,pe,z])|refine ai ?_|fail
   have aYa:=rV j au;have n1:=Di n af;have ee:=Wb n;obtain⟨E,U⟩:∃E:Nat->al,∀i,E i=D j++(bT n).take i:=⟨_,λ_=>rfl⟩;have Fu:∀i,(E i).length<=9 * j+i:=λi=>by rw[U,bw,gK];omega
   have O:E 0=D j:=by rw[U];simp
   have S:E (gM n)=D (j+1):=by
    rw[U,J,J,show gM n=(bT n).length from rfl,fe,Hj,dn xD,<-aT]
    simp
   have aB4:IntKind.i64.wrap ((j:Int)+1)=((j+1:Nat):Int):=by rw[bS];omega
   refine Wy (ι:=Unit) (λ_=>[(0,.str b),(1,.sl f L),(4,.str []),(5,.int .i64 0),(6,.osl 1 H.length ((D (j+1)).length+1) 0 (b.length+(D (j+1)).length)<|b.length+(D (j+1)).length),(14,.sl f L),(15,.int .i64 l.length),(16,.int .i64 j)]) (λ_=>H++[.cells ((D (j+1)).length+1) (ck<|b++D (j+1))]) (λ_=>True) ?_ λ_ _=>?_
   ·refine c7 (ι:=Nat) (λi=>[(0,.str b),(1,.sl f L),(4,.str []),(5,.int .i64 0),(6,.osl 1 H.length ((E i).length+1) 0 (b.length+(E i).length)<|b.length+(E i).length),(8,.int .i64 n),(9,.int .i64<|gM n),(14,.sl f L),(15,.int .i64 l.length),(16,.int .i64 j),(24,.int .i64<|gM n),(25,.int .i64 i)])
     (λi=>H++[.cells ((E i).length+1) (ck<|b++E i)]) (λi=>i<=gM n) (λi=>gM n-i) 0 (cb _) ?_ ?_ ?_
    ·rw[O];simp[go_sem]
    ·rw[O]
    intro i hi;have aYb:=Fu i;by_cases bK:i<gM n
    ·have cH:decide ((i:Int)<(gM n:Int))=true:=cS;have V:IntKind.i64.wrap ((i:Int)+1)=((i+1:Nat):Int):=by rw[bS];omega
     have dw:IntKind.i64.wrap ((gM n:Int)-1)=((gM n-1:Nat):Int):=by rw[bS];omega
     obtain⟨K,bL⟩:∃K,K=gM n-1-i:=⟨_,rfl⟩;have dQ:IntKind.i64.wrap (((gM n-1:Nat):Int)-(i:Int))=(K:Int):=by rw[bS];omega
     have q6:IntKind.i64.wrap (7 * (K:Int))=7 * (K:Int):=bS;have uG:=Xl (n:=n) (j:=K) gf;have aPd:n / 128 ^ K<=9223372036854775807:=e1 (Nat.div_le_self _ _) af;have yZ:=aEe aPd;obtain⟨d,hd⟩:∃d,d=n / 128 ^ K % 128:=⟨_,rfl⟩;rw[<-hd]at yZ;have iS:d<128:=gf;have Jk:=aEM iS;have T:E (i+1)=E i++[Ae n i]:=by rw[U,U,aFK n i bK,c6]
     by_cases h2:i<gM n-1
     ·have jN:decide ((i:Int)<((gM n-1:Nat):Int))=true:=cS;have C6:IntKind.u8.wrap ((d+128:Nat):Int)=((Ae n i).toNat:Int):=by
       unfold Ae;rw[<-bL,<-hd,aC h2,HW gf];simp[IntKind.wrap,IntKind.signed,IntKind.bits];omega
      repeat' first|(refine ae ?_;simp only[go_sem,cH,V,dw,dQ,q6,uG,yZ,Jk,jN,C6])|refine ai ?_|fail
      refine⟨⟨gf,(by rintro e rfl;rfl),gf⟩,?_⟩
      repeat' first|(refine ae ?_;simp only[go_sem,V])|refine ai ?_|fail
      refine⟨i+1,gf,gf,?_⟩;rw[T,<-c6,Xm];simp[vh]
     ·have jN:decide ((i:Int)<((gM n-1:Nat):Int))=false:=dA;have C6:IntKind.u8.wrap ((d:Nat):Int)=((Ae n i).toNat:Int):=by
       unfold Ae;rw[<-bL,<-hd,ar h2,HW gf];simp[IntKind.wrap,IntKind.signed,IntKind.bits];omega
      repeat' first|(refine ae ?_;simp only[go_sem,cH,V,dw,dQ,q6,uG,yZ,jN,C6])|refine ai ?_|fail
      refine⟨⟨gf,(by rintro e rfl;rfl),gf⟩,?_⟩
      repeat' first|(refine ae ?_;simp only[go_sem,V])|refine ai ?_|fail
      refine⟨i+1,gf,gf,?_⟩;rw[T,<-c6,Xm];simp[vh]
    ·have eI:i=gM n:=gf;subst eI;repeat' first|(refine ae ?_;simp only[go_sem,bK])|refine ai ?_|fail
     exact⟨(),by rw[S],by rw[S]⟩
   ·refine hH ?_;exact⟨j+1,gf,gf,hW⟩
  ·have tb:j=l.length:=gf;subst tb;refine hH ?_;exact⟨(),trivial⟩
 ·have aOs:D l.length=l.flatMap bT:=by rw[J,fe]
  have a1:List.take ((b.length+(D l.length).length) * 1) (ck<|b++D l.length)=ck (b++D l.length):=qy<|by rw[qO,bw];omega
  repeat' first|(refine ae ?_;simp only[go_sem,a1])|refine ai ?_|fail
  rw[aOs];exact aX<|.refl _
theorem Be(b:al)(n:Nat)(f:Bool)(af:n<=9223372036854775807)(J:b.length+9<=140737488355328)(H:ab):
  aO prog 49 [.str b,.sl f [.int .i64 n]] H (.aN [.str (b++bT n),.int .i64 0]):=by
 simpa using Yl b [n] f (oq af) (oq J) H
theorem zt(b t:al)(J:b.length+9<=140737488355328)(ag:t.length<=9223372036854775807)(hl:b.length+9+t.length<=9223372036854775807)(H:ab):
  aO prog 24 [.str b,.str t] H (.str<|b++dj t):=by
 refine bg func24 ?_;have ad:=Be b t.length true ag J;have hs:=Di t.length ag;unfold gM at hs;repeat' first|(refine ae ?_;simp only[go_sem])|refine ai ?_|fail
 exact bJ<|.of rfl
theorem aFL(h:py k=some p):p=0\/p=1\/p=3\/p=4\/p=5\/p=8\/p=9:=by
 unfold py at h
 (repeat' split at h)<;>first|(cases h;omega)|cases h
theorem aLa(b:al)(c:cg)(ad:c.path.length<=1048576)(ag:c.to.length<=1048576)(hd:c.data.length<=1048576)(af:c.n<=9223372036854775807)(aa:b.length<=1048576)(H:ab):
  aO prog 144 [.str b,cy c] H (if kY c=true then .aN [.str (b++ub c),.int .i64 0]else .aN [.str [],.int .i64 180]):=by
 refine bg func144 ?_;have ao:=Ld c ad ag;obtain⟨S,K,to,Z,n⟩:=c;simp only at ad ag hd af;unfold cy at ao ⊢;simp only at ao ⊢;obtain⟨B,cf⟩:∃B,B=kY ⟨S,K,to,Z,n⟩:=⟨_,rfl⟩;rw[<-cf]at ao ⊢;cases B with
 |false=>
  repeat' first|(refine ae ?_;simp only[go_sem])|refine ai ?_|fail
  exact aX<|.of hW
 |true=>
  have I:=cf.symm;unfold kY at I;cases aM:py S with
  |none=>simp only[aM]at I;cases I
  |some p=>
   simp only[aM,dp]at I;obtain⟨f1,f2,f3,f4⟩:=I;obtain⟨k1,k2⟩:=NY aM;have ak:=PS S;rw[aM]at ak;simp only[o0,wX]at ak;obtain⟨k,qZ⟩:∃k:Nat,S=k:=⟨S.toNat,gf⟩;have T:ub ⟨S,K,to,Z,n⟩=bT k++(pD p 1 K++(pD p 2 to++(pD p 4 Z++rk p n))):=by unfold ub;simp only[aM];rw[show S.toNat=k by omega]
   subst qZ;have Sc:=Di k gf;unfold gM at Sc;have hs:=Be b k true gf gf;have V:∀(t y:al),t.length<=1048576->y.length<=4194304->∀H,aO prog 24 [.str y,.str t] H (.str<|y++dj t):=λt y h1 h2=>zt y t gf gf gf
   have gW:∀t:al,t.length<=1048576->(dj t).length<=1048585:=λt h=>by have:=Di t.length gf;unfold gM at this;unfold dj;simp;omega
   have aYf:=gW K ad;have aYg:=gW to ag;have aYe:=gW Z hd;rcases aFL aM with rfl|rfl|rfl|rfl|rfl|rfl|rfl
   ·have ax:eg .and .i64 0 1=0:=rfl;have U:eg .and .i64 0 2=0:=rfl;have bf:eg .and .i64 0 4=0:=rfl;have J:eg .and .i64 0 8=0:=rfl;repeat' first|(refine ae ?_;simp only[go_sem,ax,U,bf,J])|refine ai ?_|fail
    exact aX<|.of (by rw[T];simp[pD,rk,ax,U,bf,J])
   ·have ax:eg .and .i64 1 1=1:=rfl;have U:eg .and .i64 1 2=0:=rfl;have bf:eg .and .i64 1 4=0:=rfl;have J:eg .and .i64 1 8=0:=rfl;have O:=V K (b++bT k) ad nc;have z:=O;repeat' first|(refine ae ?_;simp only[go_sem,ax,U,bf,J])|refine ai ?_|fail
    exact aX<|.of (by rw[T];simp[pD,rk,ax,U,bf,J])
   ·have ax:eg .and .i64 3 1=1:=rfl;have U:eg .and .i64 3 2=2:=rfl;have bf:eg .and .i64 3 4=0:=rfl;have J:eg .and .i64 3 8=0:=rfl;have O:=V K (b++bT k) ad nc;have dV:=V to (b++(bT k++dj K)) ag nc;have z:=O;have Q6:=dV;repeat' first|(refine ae ?_;simp only[go_sem,ax,U,bf,J])|refine ai ?_|fail
    exact aX<|.of (by rw[T];simp[pD,rk,ax,U,bf,J])
   ·have ax:eg .and .i64 4 1=0:=rfl;have U:eg .and .i64 4 2=0:=rfl;have bf:eg .and .i64 4 4=4:=rfl;have J:eg .and .i64 4 8=0:=rfl;have O:=V Z (b++bT k) hd nc;have z:=O;repeat' first|(refine ae ?_;simp only[go_sem,ax,U,bf,J])|refine ai ?_|fail
    exact aX<|.of (by rw[T];simp[pD,rk,ax,U,bf,J])
   ·have ax:eg .and .i64 5 1=1:=rfl;have U:eg .and .i64 5 2=0:=rfl;have bf:eg .and .i64 5 4=4:=rfl;have J:eg .and .i64 5 8=0:=rfl;have O:=V K (b++bT k) ad nc;have dV:=V Z (b++(bT k++dj K)) hd nc;have z:=O;have Q6:=dV;repeat' first|(refine ae ?_;simp only[go_sem,ax,U,bf,J])|refine ai ?_|fail
    exact aX<|.of (by rw[T];simp[pD,rk,ax,U,bf,J])
   ·have ax:eg .and .i64 8 1=0:=rfl;have U:eg .and .i64 8 2=0:=rfl;have bf:eg .and .i64 8 4=0:=rfl;have J:eg .and .i64 8 8=8:=rfl;have ay:0<=n:=by unfold ng at f4;simpa[J]using f4
    obtain⟨m,rfl⟩:∃m:Nat,n=m:=⟨n.toNat,gf⟩;have ln:=Be (b++bT k) m true gf nc;have z:=ln;repeat' first|(refine ae ?_;simp only[go_sem,ax,U,bf,J])|refine ai ?_|fail
    exact aX<|.of (by rw[T];simp[pD,rk,ax,U,bf,J])
   ·have ax:eg .and .i64 9 1=1:=rfl;have U:eg .and .i64 9 2=0:=rfl;have bf:eg .and .i64 9 4=0:=rfl;have J:eg .and .i64 9 8=8:=rfl;have O:=V K (b++bT k) ad nc;have ay:0<=n:=by unfold ng at f4;simpa[J]using f4
    obtain⟨m,rfl⟩:∃m:Nat,n=m:=⟨n.toNat,gf⟩;have ln:=Be (b++(bT k++dj K)) m true gf nc;have z:=O;have Q6:=ln;repeat' first|(refine ae ?_;simp only[go_sem,ax,U,bf,J])|refine ai ?_|fail
    exact aX<|.of (by rw[T];simp[pD,rk,ax,U,bf,J])
def Fq(e:Int):om:={dD with err:=e}
def eM(m:di)(c:cg):di×om×List bk:=
 if kY c=false then(m,Fq 180,[])else
 if(jD c ⟨m,dD,[]⟩).1=0 then
  (if(jD c ⟨m,dD,[]⟩).2.ops=[]then((jD c ⟨m,dD,[]⟩).2.m,(jD c ⟨m,dD,[]⟩).2.a,[])
  else((Ap m.log.nodes (jD c ⟨m,dD,[]⟩).2).m,(jD c ⟨m,dD,[]⟩).2.a,(jD c ⟨m,dD,[]⟩).2.ops))
 else(m,Fq (jD c ⟨m,dD,[]⟩).1,[])
def og(r:Int):di×Int:=if 0<=r/\r<=63 then({xW with rep:=r,next:=1},0)else(xW,20)
def Dw(m:di)(l:List bk):di:={m with log:=eX m.log l,seen:=l.foldl (λn o=>if cp o=true then mK n o.at_ else n) m.seen}
structure dI where
 lock:Int
 aZ:Int
deriving DecidableEq,Inhabited
structure mO where
 aZ:Int
 upto:Int
deriving DecidableEq,Inhabited
structure fw where
 held:List dI
 waits:List dI
deriving DecidableEq,Inhabited
structure o4 where
 kept:Int
 waits:List mO
deriving DecidableEq,Inhabited
structure bM where
 m:di
 t:fw
 g:o4
 aE:List bF
 time:Int
 ops:List bk
deriving DecidableEq,Inhabited
def bB(h:dI):I:=.agg [.int .i64 h.lock,.int .i64 h.aZ]
def dR(w:mO):I:=.agg [.int .i64 w.aZ,.int .i64 w.upto]
def gp(f1 f2:Bool)(t:fw):I:=.agg [.sl f1 (t.held.map bB),.sl f2<|t.waits.map bB]
def mw(f:Bool)(g:o4):I:=.agg [.int .i64 g.kept,.sl f<|g.waits.map dR]
def aZ(t:bF):I:=.agg [.int .i64 t.call.kind,.str t.call.path,.str t.call.to,.str t.call.data,.int .i64 t.call.n,.sl false<|t.has.map bu,.int .i64 t.at_,.bool t.done,.bool t.ended,.int .i64 t.upto,.int .i64 t.mU,.int .i64 t.mark,.int .i64 t.end_,
 .int .i64 t.bZ.err,.str t.bZ.data,.sl false<|t.bZ.names.map I.str,.int .i64 t.bZ.n,.sl false<|t.bZ.events.map dt]
def lx(e n s w h q g t o:I)(x:bM):I:=.agg [e,n,.int .i64 x.m.seen,.int .i64 x.m.rep,s,w,.int .i64 x.m.next,h,q,.int .i64 x.g.kept,g,t,.int .i64 x.time,o]
def jk(f1 f2 f3 f4 f5 f6 f7 f8 f9:Bool)(x:bM):I:=lx (.sl f1<|x.m.log.entries.map dT) (.sl f2<|x.m.log.nodes.map bj) (.sl f3<|x.m.dh.map jj) (.sl f4<|x.m.cq.map dY) (.sl f5<|x.t.held.map bB) (.sl f6<|x.t.waits.map bB) (.sl f7<|x.g.waits.map dR) (.sl f8<|x.aE.map aZ) (.sl f9<|x.ops.map bt) x
@[go_sem] theorem aXD(x:dI):b9 (bB x)=True:=by simp[bB,go_sem]
@[go_sem] theorem aXE(x:mO):b9 (dR x)=True:=by simp[dR,go_sem]
@[go_sem] theorem aXF(x:bF):b9 (aZ x)=True:=by simp[aZ,go_sem]
def Kg:fw:=⟨[],[]⟩
def aAI:o4:=⟨0,[]⟩
def yO:bM:=⟨xW,Kg,aAI,[],0,[]⟩
def xk(l:List dI)(k:Int):Option Int:=(l.find? λh=>decide<|h.lock=k).map (·.aZ)
def vt(l:List dI)(n:Int):Option Int:=(l.find? λh=>decide<|h.aZ=n).map (·.lock)
def yM(t:fw)(n k:Int):fw×Bool:=match xk t.held k with
 |none=>({t with held:=t.held++[⟨k,n⟩]},true)
 |some h=>if h=n then(t,true)else if t.waits.contains ⟨k,n⟩=true then(t,false)else({t with waits:=t.waits++[⟨k,n⟩]},false)
def fE(t:fw)(n k:Int):fw×Option Int:=
 if t.held.contains ⟨k,n⟩=true then(match t.waits.find? λw=>decide (w.lock=k)with
  |none=>({t with held:=t.held.erase ⟨k,n⟩},none)
  |some w=>(⟨t.held.erase ⟨k,n⟩++[w],t.waits.erase w⟩,some w.aZ))
 else(t,none)
def oF(n:Int):List dI->fw×List dI->fw×List dI
 |[],s=>s
 |h::l,s=>if h.aZ=n then(match(fE s.1 n h.lock).2 with
  |none=>oF n l ((fE s.1 n h.lock).1,s.2)
  |some k=>oF n l ((fE s.1 n h.lock).1,s.2++[⟨h.lock,k⟩]))else oF n l s
def kC(t:fw)(n:Int):fw×List dI:=oF n t.held (⟨t.held,t.waits.filter λw=> !decide (w.aZ=n)⟩,[])
def iC(g:o4)(n:Int):Bool:=g.waits.any λw=>decide<|w.aZ=n
def Lw(n up:Int):List mO->List mO
 |[]=>[]
 |w::l=>if w.aZ=n then⟨w.aZ,max w.upto up⟩::l else w::Lw n up l
def yB(g:o4)(n up:Int):o4×Bool:=
 if up<=g.kept then(g,true)else if iC g n=true then({g with waits:=Lw n up g.waits},false)else({g with waits:=g.waits++[⟨n,up⟩]},false)
def z7(g:o4):Option Int:=g.waits.head?.map (·.aZ)
def Aj(g:o4)(k:Int):o4×List Int:=(⟨max g.kept k,g.waits.filter λw=> !decide (w.upto<=max g.kept k)⟩,(g.waits.filter λw=>decide<|w.upto<=max g.kept k).map (·.aZ))
def mG(r:Int):bM×Int:=if(og r).2=0 then({yO with m:=(og r).1},0)else(yO,(og r).2)
def sa(x:bM)(c:cg):bM×Int×Int:=
 if(40:Int)<=(x.aE.length:Int)then(x,0,193)else({x with time:=IntKind.i64.wrap<|x.time+1,aE:=x.aE++[{so c with mU:=IntKind.i64.wrap (x.time+1)}]},x.aE.length,0)
def sg(x:bM)(p:bF×Nat):Bool:= !p.1.ended&& !(vt x.t.waits p.2).isSome&&(!iC x.g p.2||decide (z7 x.g=some (p.2:Int)))
def kG(x:bM):List Nat:=(x.aE.zipIdx.filter (sg x)).map (·.2)
def wL(x:bM)(p:Int):Option Nat:=if kG x=[]then none else some ((kG x).getD (p % ((kG x).length:Int)).toNat 0)
def hx(l:List bF)(i:Int)(f:bF->bF):List bF:=if 0<=i/\i<l.length then l.set i.toNat (f<|l.getD i.toNat (so eK))else l
def mc(l:List bF)(h:dI):List bF:=hx l h.aZ λt=>dE t ⟨1,h.lock⟩
def mE(time:Int)(l:List bF)(n:Int):List bF:=hx l n λt=>{t with ended:=true,end_:=time}
def qi(full:Bool)(who:Nat)(x:bM):bM:=
 if full=true then{x with g:={x.g with waits:=x.g.waits.filter λw=> !decide (w.aZ=who)},aE:=mE x.time (hx x.aE who λt=>{t with bZ:={dD with err:=120}}) who}
 else{x with g:=(Aj x.g x.ops.length).1,aE:=(Aj x.g x.ops.length).2.foldl (mE x.time) x.aE}
def BX(who:Nat)(k:Int)(x:bM):bM:=
 if(yM x.t who k).2=true then{x with t:=(yM x.t who k).1,aE:=hx x.aE who λt=>dE t ⟨1,k⟩}else{x with t:=(yM x.t who k).1}
def BY(who:Nat)(k:Int)(x:bM):bM:=match(fE x.t who k).2 with
 |none=>{x with t:=(fE x.t who k).1,aE:=hx x.aE who λt=>dE t ⟨2,k⟩}
 |some n=>{x with t:=(fE x.t who k).1,aE:=mc (hx x.aE who λt=>dE t ⟨2,k⟩) ⟨k,n⟩}
def B8(who n:Nat)(t:bF):Bool:= !decide (n=who)&&hB t.call&& !t.done
def lQ(who:Nat)(s:fw×List bF)(n:Nat):fw×List bF:=
 if B8 who n (s.2.getD n<|so eK)=true then((kC s.1 n).1,(kC s.1 n).2.foldl mc<|hx s.2 n pz)else s
def ED(who:Nat)(x:bM):bM:={x with t:=((List.range x.aE.length).foldl (lQ who) (x.t,x.aE)).1,aE:=((List.range x.aE.length).foldl (lQ who) (x.t,x.aE)).2}
def EP(x:bM)(r:di×om×List bk)(t:bF):bF:=dE {t with bZ:=r.2.1,mark:=x.time,upto:=((x.ops++r.2.2).length:Int)} ⟨3,0⟩
def kN(who:Nat)(x:bM)(r:di×om×List bk):bM:={x with m:=r.1,ops:=x.ops++r.2.2,aE:=hx x.aE who (EP x r)}
def EI(who:Nat)(c:cg)(x:bM):bM:=
 if c.kind=13/\(eM x.m c).2.1.err=0 then ED who (kN who x<|eM x.m c)else kN who x (eM x.m c)
def B9(who:Nat)(t:bF)(x:bM):bM:=
 if(yB x.g who t.upto).2=true then{x with g:=(yB x.g who t.upto).1,aE:=mE x.time x.aE who}else{x with g:=(yB x.g who t.upto).1}
def Et(who:Nat)(x:bM):bM:={x with aE:=hx x.aE who λt=>{dE t ⟨5,0⟩with end_:=x.time}}
def tC(who:Nat)(t:bF)(u:fk)(x:bM):bM:=
 if u.kind=1 then BX who u.lock x else if u.kind=2 then BY who u.lock x else if u.kind=3 then EI who t.call x else if u.kind=4 then B9 who t x else if u.kind=5 then Et who x else x
def BZ(x:bM):bM:={x with time:=IntKind.i64.wrap (x.time+1)}
def AF(full:Bool)(who:Nat)(x:bM):bM:=
 if iC x.g who=true then qi full who (BZ x)else tC who (x.aE.getD who<|so eK) (fX x.m.log.nodes<|x.aE.getD who (so eK)) (BZ x)
def mJ(x:bM)(p:Int)(full:Bool):bM:=match wL x p with
 |none=>x
 |some who=>AF full who x
def sC(l:List aH)(n:aH):List aH:=nd l (pos l n.id) (upto l n.id) [n]
def ZI(l:List aH)(id:Int):List aH:=nd l (pos l id) (upto l id) []
theorem Gg(l)(o):(jI l o).id=o.node:=by
 have h:(qd l o).id=o.node:=by
  unfold qd;split
  ·rename_i n af;have:=List.find?_some af;simpa using this
  ·rfl
 unfold jI;split<;>exact h
theorem ya{l:List aH}{o:bk}(h:refused l o=false):eo l o=sC l (jI l o):=by rw[eo,ar j9,sC,Gg]
theorem Wz(l:List aH)(id:Int)(x:aH)(J:x∈l.take (pos l id)):x.id<id:=by induction l<;>grind [pos,db]
theorem WA{l:List aH}(hs:cG l=true)(id)(x)(J:x∈l.drop (upto l id)):id<x.id:=by
 have ad:=((zl l).1 hs).2;rw[KR]at ad;obtain⟨i,hi,rfl⟩:=wZ J;rw[hp]at hi;rw[List.getElem_drop];have O:∀k (hk),pos l id<=k->¬l[k].id<id:=by
  intro k hk hle U;have key:∀(l),(∀(i j) (S) (T:j<l.length),i<j->l[i].id<l[j].id)->∀k (hk),pos l id<=k->¬l[k].id<id:=by
   intro l;induction l with
   |nil=>intro _ k hk;simp at hk
   |cons n l V=>
    intro ad k hk hle U;unfold pos at hle;split at hle
    ·cases k with
     |zero=>omega
     |succ k=>
      refine V (λi j hi Z z=>?_) k (oq hk) gf<|oq U
      have:=ad (i+1) (j+1) (oq hi) (oq Z) gf;simpa using this
    ·rename_i af;cases k with
     |zero=>simp at U;omega
     |succ k=>have:=ad 0 (k+1) hW hk gf;simp at this U;omega
  exact key l ad k hk hle U
 unfold upto at hi ⊢;split
 ·rename_i K;have U:=x3 hs K;have he:=by
   rw[Dv hs,dn U]at K;simpa using K
  rw[aC K]at hi;have:=ad (pos l id) (pos l id+1+i) U gf gf;omega
 ·rename_i K;rw[ar K]at hi;have h1:=O (pos l id+i) gf gf;have h2:l[pos l id+i].id≠id:=by
   intro e;by_cases I:i=0
   ·subst I;apply K;rw[Dv hs,dn gf];simpa using e
   ·have h3:=ad (pos l id) (pos l id+i) gf gf gf;have h4:=O (pos l id) gf<|bh _
    omega
  omega
theorem XU{l:List aH}(hs:cG l=true){n:aH}(af:gd n.id=true):cG (sC l n)=true:=by have h:=(zl l).1 hs;rw[zl];have ag:=Wz l n.id;have hd:=WA hs n.id;unfold sC nd;grind
theorem XV{n:aH}(J:∀x∈A,x.id<id)(af:n.id=id):pos (A++n::B) id=A.length:=by induction A<;>simp_all[pos,]
theorem aL4(U:∀x∈A,x.id<id)(K:∀x∈B,id<x.id):pos (A++B) id=A.length:=by
 induction A with
 |nil=>
  cases B with
  |nil=>rfl
  |cons b B=>have:=K b hW;rw[jb,pos,ar gf];rfl
 |cons a A O=>rw[mf,pos,aC<|U a hW,O λx J=>U x j9];rfl
theorem G4{n:aH}(J:∀x∈A,x.id<id)(af:n.id=id):fi (A++n::B) id=some n:=by unfold fi;grind
theorem Le{l:List aH}(hs:cG l=true)(id):∃A B,(∀x∈A,x.id<id)/\(∀x∈B,id<x.id)/\A=l.take (pos l id)/\B=l.drop (upto l id)/\(l=A++B/\iR l id=false\/∃n,n.id=id/\l=A++n::B/\iR l id=true):=by
 refine⟨_,_,Wz l id,WA hs id,rfl,rfl,?_⟩;cases J:iR l id with
 |false=>unfold upto;simp_all
 |true=>
  right;have U:=x3 hs J;have he:=by have:=J;rw[Dv hs,dn U]at this;simpa using this
  refine⟨l[pos l id],he,?_,rfl⟩;unfold upto;rw[aC J,<-ir U,sF]
theorem Qa{l:List aH}(n)(J:A=l.take (pos l n.id))(U:B=l.drop (upto l n.id)):sC l n=A++n::B:=by rw[sC,nd,J,U,c6];rfl
theorem P2{n m:aH}(J:∀x∈A,x.id<n.id)(hm:m.id=n.id):sC (A++m::B) n=A++n::B:=by
 rw[sC,nd,upto,aC (by rw[iR,G4 J hm];rfl),(XV J hm),List.take_left']
 ·simp_all
 ·rfl
theorem aJB{m:aH}(J:∀x∈A,x.id<id)(hm:m.id=id):ZI (A++m::B) id=A++B:=by
 rw[ZI,nd,upto,aC (by rw[iR,G4 J hm];rfl),(XV J hm),List.take_left']
 ·simp_all
 ·rfl
theorem aJC{l:List aH}(o:bk)(hs:cG l=true):tv (eo l o) o (ku l o)=l:=by
 cases J:refused l o with
 |true=>rw[eo,aC J,ku,aC J,tv,aC<|by simp[Qx]]
 |false=>
  have K:cp o=true:=by grind [cp,refused]
  have V:gd o.node=true:=by unfold cp vr w9 at K;split at K<;>simp at K<;>simp[K]
  have U:=Gg l o;have I:cG (eo l o)=true:=by rw[ya J];exact XU hs<|by rw[U];exact V
  rw[ku,ar (by rw[J];decide),tv,ar<|by rw[I];simp]
  obtain⟨A,B,O,cf,z,Fo,S⟩:=Le hs o.node;have hd:eo l o=A++jI l o::B:=by rw[ya J];exact Qa _ (by rw[U];exact z)<|by rw[U];exact Fo
  rcases S with⟨hl,T⟩|⟨n,af,hl,T⟩
  ·rw[ar (by rw[T];simp)]
   have:=aJB (B:=B) O U;rw[hd];exact this.trans hl.symm
  ·have Z:fi l o.node=some n:=by rw[hl];exact G4 O af
   rw[aC (by rw[T,Z,V];simpa using af),Z,o0]
   have:=P2 (m:=jI l o) (B:=B) (by rw[af];exact O)<|by rw[af,U]
   rw[hd];have h2:sC (A++jI l o::B) n=nd (A++jI l o::B) (pos (A++jI l o::B) o.node) (upto (A++jI l o::B) o.node) [n]:=by rw[sC,af]
   rw[<-h2,this,<-hl]
theorem PJ{l:List aH}(o:bk)(hs:cG l=true):cG (eo l o)=true:=by
 cases J:refused l o with
 |true=>rw[eo,aC J];exact hs
 |false=>
  have K:cp o=true:=by grind [cp,refused]
  have U:gd o.node=true:=by grind [cp,vr,w9]
  rw[ya J];exact XU hs<|by rw[Gg];exact U
theorem Lf{a b:lu}:lN a b=true↔a.c<b.c\/(a.c=b.c/\a.r<b.r):=H7
theorem aL5{a b:lu}:lN a b=false↔¬(a.c<b.c\/(a.c=b.c/\a.r<b.r)):=by rw[<-Lf,yq]
theorem aI0{a b:lu}(h1:a.c=b.c)(h2:a.r=b.r):a=b:=by cases a;simp_all
theorem aFM(a b):lN a b=true\/a=b\/lN b a=true:=by
 rw[Lf,Lf];by_cases h:a=b
 ·exact .inr<|.inl h
 ·have:¬(a.c=b.c/\a.r=b.r):=λq=>h<|aI0 q.1 q.2
  omega
theorem aEh{a b c:lu}(h:lN a b=true)(k:lN b c=true):lN a c=true:=by rw[Lf]at *;omega
def gY(l:List bk):hq:=⟨(fh l [] []).1,(fh l [] []).2⟩
abbrev zT(l:List bk):Prop:=l.Pairwise λx y=>lN x.at_ y.at_=true
theorem WB(a b:List bk)(es:List gr)(n:List aH):fh (a++b) es n=fh b (fh a es n).1 (fh a es n).2:=by induction a generalizing es n<;>grind [mf,fh]
theorem aGZ(l)(es)(n):fh l es n=(es++(fh l [] n).1,(fh l [] n).2):=by
 induction l generalizing es n with
 |nil=>simp[fh]
 |cons o l J=>show fh l (es++[⟨o,ku n o⟩]) (eo n o)=(es++(fh l ([]++[⟨o,ku n o⟩]) (eo n o)).1,(fh l ([]++[⟨o,ku n o⟩]) (eo n o)).2);grind
theorem aG0(l)(es){n:List aH}(h:cG n=true):cG (fh l es n).2=true:=by
 induction l generalizing es n with
 |nil=>exact h
 |cons o l J=>exact J _<|PJ o h
theorem aFN(l):cG (gY l).nodes=true:=aG0 l [] rfl
theorem yS(l:List bk):dU (gY l)=l:=by rw[dU,gY,Wu];rfl
theorem aHO(a)(pre)(r:List bk)(h:∀x∈r,lN a x.at_=true):
  je a (gY<|pre++r.reverse).entries.reverse (gY<|pre++r.reverse).nodes=((je a (gY pre).entries.reverse (gY pre).nodes).1+r.length,(je a (gY pre).entries.reverse (gY pre).nodes).2):=by
 induction r with
 |nil=>simp
 |cons x r J=>
  have e:pre++(x::r).reverse=(pre++r.reverse)++[x]:=hW;have U:gY ((pre++r.reverse)++[x])=⟨(gY (pre++r.reverse)).entries++[⟨x,ku (gY<|pre++r.reverse).nodes x⟩],eo (gY<|pre++r.reverse).nodes x⟩:=by rw[gY,V7];rfl
  rw[e,U];simp[List.reverse_nil,jb,mf];rw[je,aC<|h x hW,aJC x<|aFN _,(J λy K=>h y<|by simp[K])]
  simp[vh]
theorem aFO(a)(pre)(h:∀x∈pre,lN a x.at_=false)(n):(je a (gY pre).entries.reverse n).1=0/\(je a (gY pre).entries.reverse n).2=n:=by
 cases J:(gY pre).entries.reverse with
 |nil=>exact⟨rfl,rfl⟩
 |cons e r=>have h1:e.op∈dU (gY pre):=BF nP;rw[yS]at h1;rw[je,ar j9];exact⟨rfl,rfl⟩
def ld(o:bk)(l:List bk):List bk:=l.takeWhile λx=> !lN o.at_ x.at_
def qv(o:bk)(l:List bk):List bk:=l.dropWhile λx=> !lN o.at_ x.at_
def ue(o:bk)(l:List bk):List bk:=ld o l++o::qv o l
theorem zn(o)(l):ld o l++qv o l=l:=List.takeWhile_append_dropWhile
theorem YE(o:bk)(l:List bk):∀x∈ld o l,lN o.at_ x.at_=false:=by
 intro x J;unfold ld at J;induction l with
 |nil=>simp at J
 |cons y l U=>grind [List.takeWhile_cons,db]
theorem YF{o:bk}{l:List bk}(h:zT l):∀x∈qv o l,lN o.at_ x.at_=true:=by
 intro x J;unfold qv at J;induction l with
 |nil=>simp at J
 |cons y l K=>
  rw[zT,List.pairwise_cons]at h;rw[List.dropWhile_cons]at J;split at J
  ·exact K h.2 J
  ·rename_i U;have U:=oq U;rw[db]at J;rcases J with rfl|J
   ·exact U
   ·exact aEh U<|h.1 x J
theorem aI1{l:List bk}(hs:zT l)(o:bk)(h1:cp o=true)(h2:rq (gY l).entries o.at_=false)(h3:(l.length:Int)<200):fo (gY l) o=gY (ue o l):=by
 have hlen:=by have:=b7 List.length<|yS l;rwa[dU,dq]at this
 have hu:=aHO o.at_ (ld o l) (qv o l).reverse λx J=>YF hs x (List.mem_reverse.1 J);rw[List.reverse_reverse,zn]at hu;have af:=aFO o.at_ (ld o l) (YE o l) (gY<|ld o l).nodes;have U:je o.at_ (gY l).entries.reverse (gY l).nodes=((qv o l).length,(gY (ld o l)).nodes):=by rw[hu,af.2,af.1];simp
 have S:l.length=(ld o l).length+(qv o l).length:=by have:=b7 List.length<|zn o l;grind
 have he:(gY l).entries=(gY (ld o l)).entries++(fh (qv o l) [] (gY (ld o l)).nodes).1:=by have e:=b7 (λx=>(gY x).entries) (zn o l).symm;rw[e,gY,WB,aGZ<|qv o l];rfl
 have K:=by have:=b7 List.length<|yS (ld o l);rwa[dU,dq]at this
 rw[fo,ar (by rw[h1];decide),ar (by rw[h2];decide),ar gf,U]
 simp only;have ax:(gY l).entries.length-(qv o l).length=(ld o l).length:=gf;have O:(gY l).entries.take (ld o l).length=(gY (ld o l)).entries:=by rw[he,<-K,List.take_left'];rfl
 have aU:((gY l).entries.drop (ld o l).length).map gr.op=qv o l:=by rw[yk];have:=yS l;rw[dU]at this;rw[this];exact(b7 (List.drop (ld o l).length) (zn o l).symm).trans<|List.drop_left' rfl
 rw[ax,O,aU,ue];have bf:gY (ld o l++o::qv o l)=⟨(fh (o::qv o l) (fh (ld o l) [] []).1 (fh (ld o l) [] []).2).1,(fh (o::qv o l) (fh (ld o l) [] []).1 (fh (ld o l) [] []).2).2⟩:=by rw[gY,WB]
 rw[bf];rfl
theorem B1{o x:bk}{l:List bk}:x∈ue o l↔x=o\/x∈l:=by
 rw[ue];have:x∈l↔x∈ld o l\/x∈qv o l:=by rw[<-fH,zn]
 grind
theorem P3(o)(l):(ue o l).length=l.length+1:=by have:=b7 List.length<|zn o l;rw[bw]at this;rw[ue,bw,cd];omega
theorem aI2{o:bk}{l:List bk}(hs:zT l)(af:∀x∈l,x.at_≠o.at_):zT (ue o l):=by
 have ay:=hs;rw[<-zn o l]at ay;rw[zT,List.pairwise_append]at ay;rw[ue,zT,List.pairwise_append,List.pairwise_cons];have ad:∀x∈ld o l,lN x.at_ o.at_=true:=λx J=>by
  have U:=YE o l x J;rcases aFM o.at_ x.at_ with q|q|q
  ·rw[q]at U;cases U
  ·exact absurd q.symm<|af x (by rw[<-zn o l];simp[J])
  ·exact q
 refine⟨ay.1,⟨YF hs,ay.2.1⟩,λa K b O=>?_⟩;grind
theorem Wc(l:List bk)(a:lu):rq (gY l).entries a=l.any λo=>decide (o.at_=a):=by rw[J,yS]
 where J {g:hq} {a:lu}:rq g.entries a=(dU g).any λo=>decide (o.at_=a):=by rw[rq,dU,List.any_map];rfl
structure Good (g:hq):Prop where
 log:g=gY (dU g)
 aDe:zT (dU g)
 ok:∀o∈dU g,cp o=true
theorem aLU:Good ⟨[],[]⟩:=⟨rfl,by simp[dU],by simp[dU]⟩
theorem B7{g:hq}(h:Good g)(o):Good (fo g o)/\(dU (fo g o)=dU g/\fo g o=g/\(cp o=false\/(∃x∈dU g,x.at_=o.at_)\/200<=(dU g).length)\/dU (fo g o)=ue o (dU g)/\cp o=true/\(∀x∈dU g,x.at_≠o.at_)):=by
 have hlen:(dU g).length=g.entries.length:=dq ..;by_cases h1:cp o=true
 ·by_cases h2:rq g.entries o.at_=true
  ·have e:fo g o=g:=by rw[fo,ar (by rw[h1];decide),aC h2]
   rw[e];refine⟨h,.inl ⟨rfl,rfl,.inr<|.inl ?_⟩⟩;rw[h.log,Wc]at h2;grind
  ·by_cases h3:200<=(g.entries.length:Int)
   ·have e:fo g o=g:=by rw[fo,ar (by rw[h1];decide),ar h2,aC h3]
    rw[e];exact⟨h,.inl ⟨rfl,rfl,.inr<|.inr gf⟩⟩
   ·have U:∀x∈dU g,x.at_≠o.at_:=by
     intro x J e;apply h2;rw[h.log,Wc];exact List.any_eq_true.2 ⟨x,J,oq e⟩
    have e:=aI1 h.aDe o h1 (by rw[<-h.log];simpa using h2) gf
    rw[<-h.log]at e;rw[e,yS];exact⟨⟨by rw[yS],by rw[yS];exact aI2 h.aDe U,by rw[yS];intro x J;rcases B1.1 J with rfl|J;exact h1;exact h.ok x J⟩,.inr ⟨rfl,h1,U⟩⟩
 ·have h1:=oq h1;have e:fo g o=g:=by rw[fo,aC h1]
  rw[e];exact⟨h,.inl ⟨rfl,rfl,.inl h1⟩⟩
theorem YG{g:hq}(h:Good g)(l):Good (eX g l):=by
 induction l generalizing g with
 |nil=>exact h
 |cons o l J=>exact J (B7 h o).1
theorem YZ{g:hq}(O:Good g)(l):(∀x∈dU (eX g l),x∈dU g\/x∈l/\cp x=true)/\(∀x∈dU g,x∈dU (eX g l))/\(dU (eX g l)).length<=(dU g).length+l.length/\
  ((dU g).length+l.length<=200->∀x∈l,cp x=true->∃y∈dU (eX g l),y.at_=x.at_):=by
 induction l generalizing g with
 |nil=>grind [Good,List,bk,dU,eX,cp]
 |cons o l S=>
  obtain⟨h1,h2⟩:=B7 O o;obtain⟨i1,i2,i3,i4⟩:=S h1;show(∀x∈dU (eX (fo g o) l),_)/\(∀x∈dU g,x∈dU (eX (fo g o) l))/\(dU (eX (fo g o) l)).length<=_/\(_->∀x∈o::l,_->∃y∈dU (eX (fo g o) l),_);rcases h2 with⟨ax,K,aU⟩|⟨ax,K,aU⟩
  ·grind
  ·rw[ax]at i1 i2 i3 i4;rw[P3]at i3 i4;refine⟨λx J=>?_,λx J=>i2 x<|B1.2 (.inr J),by simp only[cd];omega,λhle x J U=>?_⟩
   ·rcases i1 x J with q|q
    ·rcases B1.1 q with rfl|q
     ·exact .inr ⟨hW,K⟩
     ·exact .inl q
    ·exact .inr ⟨lU _ q.1,q.2⟩
   ·simp only[cd]at hle;rw[db]at J;rcases J with rfl|J
    ·exact⟨x,i2 x<|B1.2 (.inl rfl),rfl⟩
    ·exact i4 gf x J U
def Tp(o:bk)(out:List bk):Nat:=out.length-(out.reverse.takeWhile λx=>lN o.at_ x.at_).length
theorem aIJ{α:Type}(p)(a b:List α)(h:∀x∈a,p x=true)(J:∀x∈b,p x=false):(a++b).takeWhile p=a:=by
 induction a with
 |nil=>
  cases b with
  |nil=>rfl
  |cons x b=>simp[J x (_)]
 |cons x a U=>simp_all
theorem PK{l:List aH}{o:bk}(h:refused l o=true):eo l o=l/\ku l o=Qx:=by rw[eo,ku,aC h,aC h];exact⟨rfl,rfl⟩
theorem aHP{l:List aH}{o:bk}(h:cG l=false):refused l o=true:=by simp[refused,h]
theorem Lo(l)(o):cG (eo l o)=cG l:=by
 cases J:cG l with
 |true=>exact PJ o J
 |false=>rw[(PK (aHP J)).1,J]
theorem XW{l:List aH}(hs:cG l=true)(n)(id):fi (sC l n) id=if id=n.id then some n else fi l id:=by
 obtain⟨A,B,K,T,O,S,h⟩:=Le hs n.id;rw[Qa n O S];by_cases U:id=n.id
 ·rw[aC U];exact G4 (λx J=>by rw[U];exact K x J) U.symm
 ·rw[ar U];have key:∀m,m.id=n.id->fi (A++m::B) id=fi (A++B) id:=by
   intro m hm;unfold fi;rw[List.find?_append,List.find?_append,List.find?_cons,b0<|by rw[hm];exact λe=>U e.symm]
  rcases h with⟨h,_⟩|⟨m,hm,h,_⟩
  ·conv=>rhs;rw[h]
   exact key n rfl
  ·conv=>rhs;rw[h]
   rw[key m hm];exact key n rfl
theorem NI{l:List aH}{o:bk}(hk:o.kind=1):jI l o=⟨(qd l o).id,o.parent,o.name,o.at_,((fi l o.node).getD uU).data,((fi l o.node).getD uU).wrote⟩:=by unfold jI qd;rw[aC hk];cases fi l o.node<;>rfl
theorem aDs{l:List aH}{o:bk}(hk:o.kind=2):jI l o=⟨(qd l o).id,if(fi l o.node).isSome=true then((fi l o.node).getD uU).parent else-1,((fi l o.node).getD uU).name,((fi l o.node).getD uU).gx,o.data,o.at_⟩:=by unfold jI qd;rw[ar gf];cases fi l o.node<;>rfl
def par(l:List aH)(id:Int):Option Int:=match fi l id with|none=>none|some n=>if n.parent= -1 then none else some n.parent
theorem qL(l:List aH)(k:Nat)(id:Int):k0 l (k+1) id=match par l id with|none=>[]|some p=>p::k0 l k p:=by grind [k0,par,fi,id]
theorem aEa(l)(k j)(id):k0 l k id=(k0 l (k+j) id).take k:=by
 induction k generalizing id with
 |zero=>rfl
 |succ k J=>rw[Nat.succ_add,qL,qL];grind
def kz(l:List aH):Prop:=∃r:Int->Nat,∀x p,par l x=some p->r p<r x
def Ac(l:List aH):Nat->Int->List Int
 |0,_=>[]
 |k+1,id=>match par l id with|none=>[]|some p=>id::Ac l k p
theorem aHQ(l:List aH)(k:Nat)(id:Int):(Ac l k id).length=(k0 l k id).length:=by
 induction k generalizing id with
 |zero=>rfl
 |succ k J=>rw[qL,Ac];grind
theorem aHR(l:List aH)(k:Nat)(id:Int):∀x∈Ac l k id,x∈l.map aH.id:=by induction k generalizing id<;>grind [id,Ac,par,db,fi,sD,bP]
theorem aFP{l:List aH}{r:Int->Nat}(U:∀x p,par l x=some p->r p<r x)(k)(id):(∀x∈Ac l k id,r x<=r id)/\(Ac l k id).Nodup:=by
 induction k generalizing id with
 |zero=>exact⟨λx J=>(p2 J),List.nodup_nil⟩
 |succ k K=>rw[Ac];grind
theorem aEO{l:List aH}{r:Int->Nat}(U:∀x p,par l x=some p->r p<r x)(k)(id):∀x∈k0 l k id,r x<r id:=by
 induction k generalizing id with
 |zero=>intro x J;cases J
 |succ k K=>intro x J;rw[qL]at J;grind
theorem Zs{xs ys:List Int}(af:xs.Nodup)(hs:∀x∈xs,x∈ys):xs.length<=ys.length:=by
 induction xs generalizing ys with
 |nil=>exact cb _
 |cons x xs J=>have h:=J (ys:=ys.erase x) (tK.1 af).2 λz U=>j9;grind
theorem Pe{l:List aH}(h:kz l)(k)(id):(k0 l k id).length<=l.length:=by obtain⟨r,J⟩:=h;have:=Zs (aFP J k id).2<|aHR l k id;rwa[aHQ,dq]at this
theorem Gh{l:List aH}(h:kz l){k:Nat}(hk:l.length<=k)(id:Int):k0 l k id=hS l id:=by obtain⟨j,rfl⟩:∃j,k=l.length+j:=⟨k-l.length,gf⟩;rw[hS,aEa l l.length j id,qy<|Pe h _ _]
theorem aEP(l)(k)(id):∀y∈id::k0 l k id,∀p,par l y=some p->p∈k0 l (k+1) id:=by
 induction k generalizing id with
 |zero=>intro y J p ad;simp[k0]at J;subst J;rw[qL,ad];simp
 |succ k U=>
  intro y J p ad;rcases db.1 J with rfl|J
  ·rw[qL,ad];simp
  ·rw[qL]at J;rw[qL];cases aM:par l id with
   |none=>rw[aM]at J;cases J
   |some q=>grind
theorem Ug{l:List aH}(h:kz l)(id):∀y∈id::hS l id,∀p,par l y=some p->p∈hS l id:=by intro y J p ad;have:=aEP l l.length id y J p ad;rwa[Gh h (oi _)]at this
theorem Wd{l:List aH}(U:∀y,C y->∀p,par l y=some p->C p)(k)(id)(hi:C id):∀x∈k0 l k id,C x:=by
 induction k generalizing id with
 |zero=>intro x J;cases J
 |succ k K=>intro x J;rw[qL]at J;grind
theorem aLE{l:List aH}(h:kz l)(id):id∉hS l id:=by obtain⟨r,U⟩:=h;intro J;have:=aEO U _ _ _ J;omega
theorem Vf{l a:List aH}(J:∀y,C y->∀p,par l y=some p->C p)(he:∀y,C y->par a y=par l y)(k)(id)(hi:C id):k0 a k id=k0 l k id:=by
 induction k generalizing id with
 |zero=>rfl
 |succ k U=>rw[qL,qL,he id hi];grind
theorem We{l:List aH}{o:bk}(hs:cG l=true)(J:refused l o=false)(hk:o.kind=2)(x:Int):par (eo l o) x=par l x:=by grind [par,ya,XW,Gg,aDs,fi]
theorem aHS{l:List aH}{o:bk}(hs:cG l=true)(J:refused l o=false)(hk:o.kind=1)(ad:o.parent≠ -1)(x):par (eo l o) x=if x=o.node then some o.parent else par l x:=by grind [par,ya,XW,Gg,NI]
theorem P4{o:bk}(h:cp o=true):o.kind=1\/o.kind=2:=by unfold cp at h;simp at h;exact h.1.1.1
theorem Pj{n:Int}(h:dv n=true):n≠ -1:=by intro e;subst e;revert h;decide
theorem YH{o:bk}(h:cp o=true)(hk:o.kind=1):dv o.parent=true:=by grind [cp,vr]
theorem Zl{l:List aH}{o:bk}(h:refused l o=false):cG l=true/\cp o=true/\(o.kind=1->uT l o=false):=by unfold refused at h;grind
theorem aI3{l:List aH}{o:bk}(h:uT l o=false):o.node∉o.parent::hS l o.parent:=by grind [uT,Bool.or_eq_false_iff,wY,DW,db]
theorem aLV{l:List aH}(o)(hs:cG l=true)(h:kz l):kz (eo l o):=by
 cases U:refused l o with
 |true=>rw[(PK U).1];exact h
 |false=>
  obtain⟨-,K,V⟩:=Zl U;rcases P4 K with hk|hk
  ·have c9:=aI3<|V hk;have v8:=aHS hs U hk<|Pj (YH K hk);obtain⟨r,O⟩:=id h;have Z:∀x p,x≠o.node->par l x=some p->(o.node∈x::hS l x↔o.node∈p::hS l p):=by
    intro x p J ad;have S:=Ug h x;have T:=S x hW p ad;constructor
    ·intro hm;rcases db.1 hm with e|hm
     ·exact absurd e.symm J
     ·have q1:o.node∈k0 l (l.length+1) x:=by rw[Gh h (oi _)];exact hm
      rw[qL,ad]at q1;exact q1
    ·intro hm;refine lU _ ?_;rcases db.1 hm with e|hm
     ·rw[e];exact T
     ·exact Wd (λy I q aM=>S y (lU _ I) q aM) _ p T _ hm
   refine⟨λx=>if o.node∈x::hS l x then r x+r o.parent+1 else r x,λx p z=>?_⟩
   grind
  ·obtain⟨r,O⟩:=h;exact⟨r,λx p ad=>O x p<|by rw[We hs U hk]at ad;exact ad⟩
structure ml (l:List aH):Prop where
 cG:cG l=true
 wf:kz l
 dir:∀n∈l,n.parent= -1\/dv n.parent=true
theorem aL6:ml []:=⟨rfl,⟨λ_=>0,λx p h=>p2 h⟩,λn h=>j9⟩
theorem Y0{l:List aH}{n x:aH}(h:x∈sC l n):x=n\/x∈l:=by grind [sC,nd,c6,fH]
theorem aLb{l:List aH}(o)(h:ml l):ml (eo l o):=by
 refine⟨PJ o h.cG,aLV o h.cG h.wf,?_⟩;cases J:refused l o with
 |true=>rw[(PK J).1];exact h.dir
 |false=>
  obtain⟨-,U, -⟩:=Zl J;intro n af;rw[ya J]at af;rcases Y0 af with rfl|af
  ·rcases P4 U with hk|hk
   ·rw[NI hk];exact .inr<|YH U hk
   ·rw[aDs hk];cases K:fi l o.node with
    |none=>exact .inl rfl
    |some m=>exact h.dir m<|sD K
  ·exact h.dir n af
theorem aLF(s:List bk){l:List aH}(h:ml l):ml (s.foldl eo l):=by
 induction s generalizing l with
 |nil=>exact h
 |cons o s J=>exact J<|aLb o h
theorem Lg{l:List aH}(hs:cG l=true){n:aH}(af:n∈l):fi l n.id=some n:=by
 have ad:=((zl l).1 hs).2;cases h:fi l n.id with
 |none=>have:=List.find?_eq_none.1 h n af;simp at this
 |some m=>
  have h2:=by have:=List.find?_some h;simpa using this
  obtain⟨i,hi,rfl⟩:=wZ<|sD h;obtain⟨j,J,rfl⟩:=wZ af;rcases Nat.lt_trichotomy i j with q|q|q
  ·have:=KR.1 ad i j hi J q;omega
  ·subst q;rfl
  ·have:=KR.1 ad j i J hi q;omega
inductive RunT (G:bF->Prop) (l:List aH):bF->Nat->Nat->bF->Prop
 |nil (t:bF):RunT G l t 0 0 t
 |cons {t t':bF} {n d:Nat} (h:G t) (r:RunT G l (dE t<|fX l t) n d t'):RunT G l t (n+1) ((if(fX l t).kind=3 then 1 else 0)+d) t'
theorem RunT.trans{l:List aH}{a b c:bF}{d m e:Nat}(h:RunT G l a n d b)(k:RunT G l b m e c):RunT G l a (n+m) (d+e) c:=by
 induction h with
 |nil t=>simpa using k
 | @cons t t' n d h r J=>have:=RunT.cons h<|J k;rw[<-vh]at this;rw[show n+1+m=n+m+1 by omega];exact this
theorem RunT.mono{K:bF->Prop}(J:∀t,G t->K t){l:List aH}{a b:bF}{d:Nat}(h:RunT G l a n d b):RunT K l a n d b:=by
 induction h with
 |nil t=>exact .nil t
 |cons h r U=>exact .cons (J _ h) U
def kt(c:cg)(k:Int)(h:List Int)(d e:Bool):bF:={so c with at_:=k,has:=h,done:=d,ended:=e}
theorem aHT{l:List aH}(K:ml l){n:aH}(hd:dv dir=true)(h:fz l dir s=some n):n.id≠dir/\z6 l n.id=some n:=by
 obtain⟨J,hm,ad⟩:=GB h;have U:=Lg J hm;refine⟨λe=>?_,by rw[z6,aC J];exact U⟩
 obtain⟨r,O⟩:=K.wf;have S:par l n.id=some dir:=by rw[par,U];simp only[ad];rw[ar (Pj hd)]
 have:=O _ _ S;rw[e]at this;omega
theorem Yc{has:List Int}(ps)(rest)(h:∀y∈ps,y∈has):nF has (ps++rest)=nF has rest:=by
 induction ps with
 |nil=>rfl
 |cons p ps J=>rw[mf,Vd j9];exact J λy U=>h y j9
theorem U3(h:fZ c=true):hB c=false:=by unfold fZ at h;simp at h;unfold hB;rcases h with(h|h)|h<;>rw[h]<;>rfl
theorem aEQ{o:Option Int}(h:br.Nodup):(jQ br o).Nodup:=by
 unfold jQ;split
 ·split
  ·exact h
  ·rename_i d hd;rw[List.nodup_append];refine⟨h,hW,λa U b J=>?_⟩;simp at J hd;subst J;exact λe=>hd<|e▸U
 ·exact h
theorem aHU{o:Option Int}(h:x∈jQ br o):x∈br\/o=some x:=by
 unfold jQ at h;split at h
 ·split at h
  ·exact .inl h
  ·simp at h;rcases h with h|h
   ·exact .inl h
   ·exact .inr<|by rw[h]
 ·exact .inl h
theorem aFQ{l:List aH}{p:al}{d:Int}(h:gv l p=some d):dv d=true:=by
 unfold gv at h;split at h
 ·split at h
  ·rename_i q;cases h;exact q.2
  ·cases h
 ·cases h
theorem aFR(l)(c):(zr l c).Nodup/\∀x∈zr l c,∃p∈nt c,gv l p=some x:=by
 suffices h:∀(ps:List al) (br),br.Nodup->(∀x∈br,∃p∈nt c,gv l p=some x)->(∀p∈ps,p∈nt c)->(ps.foldl (λbr p=>jQ br<|gv l p) br).Nodup/\∀x∈ps.foldl (λbr p=>jQ br<|gv l p) br,∃p∈nt c,gv l p=some x from
  h (nt c) [] List.nodup_nil (λx J=>j9) (λp ad=>ad)
 intro ps;induction ps with
 |nil=>intro br h1 h2 _;exact⟨h1,h2⟩
 |cons p ps U=>
  intro br h1 h2 h3;refine U _ (aEQ h1) (λx J=>?_) λq aM=>h3 q j9;rcases aHU J with J|J
  ·exact h2 x J
  ·exact⟨p,h3 p hW,J⟩
theorem TG(l)(br):(nQ l br).Perm br:=by
 unfold nQ;split
 ·split
  ·exact .swap _ _ _
  ·exact .refl _
 ·exact .refl _
theorem Pk(l)(c):(iH l c).Nodup:=by obtain⟨h1,h2⟩:=aFR l c;rw[iH,tK];refine⟨λh=>?_,(TG l _).nodup_iff.2 h1⟩;obtain⟨p,_,ad⟩:=h2 1<|(TG l _).mem_iff.1 h;have:=aFQ ad;revert this;decide
theorem aER{n:aH}(af:n.name=s){m:List (al×aH)}(h:∀p∈m,p.2.name=p.1):∀p∈h0 s n m,p.2.name=p.1:=by induction m<;>grind [h0,dH]
theorem aFS(s)(n)(m):((h0 s n m).map (·.1))=if s∈m.map (·.1)then m.map (·.1)else m.map (·.1)++[s]:=by induction m<;>grind [h0]
theorem aES{n:aH}{m:List (al×aH)}(h:(m.map (·.1)).Nodup):((h0 s n m).map (·.1)).Nodup:=by rw[aFS];grind
theorem aHV{m:List (al×aH)}(n:aH)(h:(m.map (·.1)).Nodup/\∀p∈m,p.2.name=p.1):((rM m n).map (·.1)).Nodup/\∀p∈rM m n,p.2.name=p.1:=by have hs:((h0 n.name n m).map (·.1)).Nodup/\∀p∈h0 n.name n m,p.2.name=p.1:=⟨aES h.1,aER rfl h.2⟩;unfold rM;grind
theorem Bj(l)(dir):((fA l dir).map (·.1)).Nodup/\∀p∈fA l dir,p.2.name=p.1:=by
 suffices h:∀(k:List aH) (m),((m.map (·.1)).Nodup/\∀p∈m,p.2.name=p.1)->((k.foldl (mo dir) m).map (·.1)).Nodup/\∀p∈k.foldl (mo dir) m,p.2.name=p.1 from
  h l [] ⟨List.nodup_nil,λp ad=>j9⟩
 intro k;induction k with
 |nil=>exact λm h=>h
 |cons x k J=>
  intro m h;refine J _ ?_;unfold mo;split
  ·exact aHV x h
  ·exact h
theorem aHW{n:aH}{m:List (al×aH)}(af:(m.map (·.1)).Nodup)(h:(s,n)∈m):hA s m=some n:=by induction m<;>grind [dO,tK,hA]
theorem Wp{n:aH}{m:List (al×aH)}(h:hA s m=some n):(s,n)∈m:=by induction m<;>grind [hA]
theorem aET{m:List (al×aH)}(af:(m.map (·.1)).Nodup)(p):((m.filter p).map (·.1)).Nodup:=
 List.Nodup.sublist (List.Sublist.map _ List.filter_sublist) af
def dep(l:List aH)(x:Int):Nat:=(hS l x).length
theorem Kk{l:List aH}(h:kz l)(ad:par l x=some p):hS l x=p::hS l p:=by rw[<-Gh h (oi _) x,qL,ad];rfl
theorem zC{l:List aH}(h:kz l)(ad:par l x=some p):dep l x=dep l p+1:=by rw[dep,Kk h ad];rfl
theorem B0{l:List aH}(h:kz l)(x):dep l x<=l.length:=Pe h _ _
theorem Qm{l:List aH}(h:kz l):∀(j) {q w:Int},dep l q=j->w∈hS l q->dep l w<dep l q:=by
 intro j;induction j with
 |zero=>grind [dep,iL]
 |succ j J=>
  intro q w U hw;cases aM:par l q with
  |none=>
   have:hS l q=[]:=by rw[<-Gh h (oi _) q,qL,aM]
   rw[this]at hw;cases hw
  |some r=>have hd:=zC h aM;rw[Kk h aM]at hw;grind
theorem aL7{l:List aH}(h:kz l):∀(k) {x y z:Int},dep l x=k->y∈hS l x->z∈hS l x->dep l y=dep l z->y=z:=by
 intro k;induction k with
 |zero=>grind [dep,iL]
 |succ k U=>
  intro x y z hk J K he;cases ad:par l x with
  |none=>
   have:hS l x=[]:=by rw[<-Gh h (oi _) x,qL,ad]
   rw[this]at J;cases J
  |some p=>
   have e:=Kk h ad;have O:=oC<|zC h ad
   have lt:∀{w:Int},w∈hS l p->dep l w<dep l p:=λhw=>Qm h _ rfl hw;grind
theorem Ev{l:List aH}(U:cG l=true)(hd:dv dir=true){n:aH}(h:(s,n)∈fA l dir):par l n.id=some dir/\n∈l/\fi l n.id=some n:=by obtain⟨h1,h2⟩:=Kf l dir _ h;have J:=Lg U h1;unfold px at h2;rw[dp,iK]at h2;refine⟨?_,h1,J⟩;rw[par,J];simp only;rw[ar (by rw[h2.1];exact Pj hd),h2.1]
theorem Wf{l:List aH}{n:aH}(h:hA s (fA l dir)=some n):(s,n)∈fA l dir:=Wp h
def Ak(l:List aH)(out:List Int)(dir:Int):List al:=qH<|((fA l dir).filter λp=> !out.contains p.2.id).map (·.1)
theorem aEb{l:List aH}(J:cG l=true)(h:kz l)(out:List Int):∀(k j:Nat) (dir:Int) (path:al),dv dir=true->l.length<k+dep l dir->l.length<j+dep l dir->Br l out k dir path=Br l out j dir path:=by
 intro k;induction k with
 |zero=>intro j dir path _ hk;have:=B0 h dir;omega
 |succ k U=>
  intro j dir path hd hk K;cases j with
  |zero=>have:=B0 h dir;omega
  |succ j=>
   rw[Br];congr 1;funext s;cases hl:hA s (fA l dir)with
   |none=>rfl
   |some n=>have O:=zC h<|(Ev J hd (Wf hl)).1;grind
def qK(l:List aH)(out:List Int)(dir:Int)(path:al):List eS:=Br l out (l.length+1) dir path
def pN(l:List aH)(out:List Int)(dir:Int)(path:al)(s:al):List eS:=match hA s (fA l dir)with
 |some n=>⟨path++(47::s),n.id,n.data⟩::(if dv n.id=true then qK l out n.id (path++(47::s))else[])
 |none=>[]
theorem YI{l:List aH}(U:cG l=true)(h:kz l)(out:List Int)(hd:dv dir=true)(path:al):qK l out dir path=(Ak l out dir).flatMap (pN l out dir path):=by
 rw[qK,Br];congr 1;funext s;unfold pN;cases hl:hA s (fA l dir)with
 |none=>rfl
 |some n=>
  have K:=zC h<|(Ev U hd (Wf hl)).1;simp;by_cases J:dv n.id=true
  ·rw[aC J,aC J,qK,aEb U h out l.length (l.length+1) n.id _ J gf gf]
  ·rw[ar J,ar J]
theorem Zt{l:List aH}{out:List Int}(h:s∈Ak l out dir):∃n,hA s (fA l dir)=some n/\(s,n)∈fA l dir/\out.contains n.id=false:=by obtain⟨p,ad,rfl⟩:=bP.1<|(Gx _).mem_iff.1 h;obtain⟨h2,h3⟩:=mg.1 ad;exact⟨p.2,aHW (Bj l dir).1 h2,h2,j9⟩
theorem aI4(l)(out)(dir):(Ak l out dir).Nodup:=(Gx _).nodup_iff.2<|aET (Bj l dir).1 _
theorem aL8{l:List aH}(U:cG l=true)(h:kz l)(out:List Int):∀(k:Nat) (dir:Int) (path:al),dv dir=true->l.length<k+dep l dir->
  ((qK l out dir path).map (·.id)).Nodup/\∀x∈(qK l out dir path).map (·.id),x∈l.map aH.id/\dir∈hS l x:=by
 intro k;induction k with
 |zero=>intro dir path _ hk;have:=B0 h dir;omega
 |succ k aB=>
  intro dir path hd hk;rw[YI U h out hd]
  -- the piece of one name
  have piece:∀s∈Ak l out dir,∃n,(s,n)∈fA l dir/\((pN l out dir path s).map (·.id)).Nodup/\
    ∀x∈(pN l out dir path s).map (·.id),x∈l.map aH.id/\dir∈hS l x/\(x=n.id\/n.id∈hS l x):=by
   intro s hs;obtain⟨n,hl,hm,_⟩:=Zt hs;obtain⟨ad,b3,_⟩:=Ev U hd hm;have CG:=zC h ad;have z:n.id∈l.map aH.id:=bP.2 ⟨n,b3,rfl⟩;have df:dir∈hS l n.id:=by rw[Kk h ad];simp
   refine⟨n,hm,?_⟩;unfold pN;rw[hl];simp only;by_cases S:dv n.id=true
   ·rw[aC S];obtain⟨i1,i2⟩:=aB n.id (path++(47::s)) S gf;refine⟨?_,λx J=>?_⟩
    ·rw[dO,tK];refine⟨λJ=>?_,i1⟩;exact aLE h _ (i2 _ J).2
    ·rw[dO,db]at J;rcases J with rfl|J
     ·exact⟨z,df,.inl rfl⟩
     ·obtain⟨T,Nn⟩:=i2 x J;have:=Ug h x n.id (lU _ Nn) dir ad;exact⟨T,this,.inr Nn⟩
   ·rw[ar S];exact⟨hW,λx J=>by simp only[dO,jm,dH]at J;subst J;exact⟨z,df,.inl rfl⟩⟩
  have V:∀s∈Ak l out dir,∀t∈Ak l out dir,s≠t->∀x∈(pN l out dir path s).map (·.id),x∉(pN l out dir path t).map (·.id):=by
   intro s hs t ag Z x J I;obtain⟨n,hm, -,k1⟩:=piece s hs;obtain⟨m,FJ, -,k2⟩:=piece t ag;obtain⟨-, -,K⟩:=k1 x J;obtain⟨-, -,O⟩:=k2 x I;obtain⟨cw,cm,f1⟩:=Ev U hd hm;obtain⟨cL,cT,f2⟩:=Ev U hd FJ;have d1:=zC h cw;have d2:=zC h cL;have jh:n.id≠m.id:=λe=>by rw[e,f2]at f1;cases f1;have a:=(Bj l dir).2 _ hm;have b:=(Bj l dir).2 _ FJ;exact Z<|a.symm.trans b
   rcases K with rfl|K<;>rcases O with aq|O
   ·exact jh aq
   ·have:=Qm h _ rfl O;omega
   ·subst aq;have:=Qm h _ rfl K;omega
   ·exact jh<|aL7 h _ rfl K O gf
  refine⟨?_,λx J=>?_⟩
  ·rw[List.map_flatMap];rw[List.nodup_iff_pairwise_ne,List.pairwise_flatMap];refine⟨λs hs=>?_,?_⟩
   ·obtain⟨_,_,k1,_⟩:=piece s hs;exact k1
   ·have iB:=aI4 l out dir;rw[List.nodup_iff_pairwise_ne]at iB;exact(List.Pairwise.and_mem.1 iB).imp fun{s t} ⟨hs,ag,Z⟩ x J y I e=>by subst e;exact V s hs t ag Z x J I
  ·rw[List.map_flatMap,vf]at J;obtain⟨s,hs,J⟩:=J;obtain⟨_,_,_,k1⟩:=piece s hs;exact⟨(k1 x J).1,(k1 x J).2.1⟩
theorem QM{l:List aH}(U:cG l=true)(h:kz l)(out)(dir)(path)(hd:dv dir=true):(qK l out dir path).length<=l.length:=by obtain⟨h1,h2⟩:=aL8 U h out (l.length+1) dir path hd gf;have:=Zs h1 λx J=>(h2 x J).1;simpa using this
theorem aNU(l:List Int):(l.flatMap Lib.encodeRune).length<=4 * l.length:=by
 induction l with
 |nil=>simp
 |cons x l J=>
  have:=(Lib.encodeRuneZ_length x).2;have e:(Lib.encodeRune x).length=(Lib.encodeRuneZ x).length:=by simp[Lib.encodeRune]
  grind
theorem Lc(h:sn s=true):s.length<=80:=by
 unfold sn at h;cases hs:tA s with
 |none=>rw[hs]at h;simp at h
 |some l=>rw[hs]at h;have e:=(NR hs).1;have:=aNU l;grind
theorem Td{o:bk}(h:cp o=true):o.name.length<=80/\o.data.length<=64:=by
 unfold cp at h;simp at h;obtain⟨⟨⟨h1,h2⟩,h3⟩,h4⟩:=h;split at h4
 ·unfold vr at h4;simp at h4;exact⟨Lc h4.1.2,j9⟩
 ·unfold w9 at h4;grind
theorem Ez{o:bk}(h:cp o=true):hR o:=⟨oC<|(Td h).1,oC<|(Td h).2⟩
theorem aR5(l)(es)(n):(fh l es n).2=l.foldl eo n:=by
 induction l generalizing es n with
 |nil=>rfl
 |cons o l J=>rw[fh,J];rfl
theorem Rj{g:hq}(h:Good g):g.nodes=(dU g).foldl eo []:=by have:(gY (dU g)).nodes=(dU g).foldl eo []:=aR5 _ _ _;rw[<-h.log]at this;exact this
structure BP (q:Int) (n:aH):Prop where
 name:n.name.length<=80
 data:n.data.length<=64
 id:j4 n.id<=q
 par:j4 n.parent<=q
theorem aCk{n:Int}(h:vB a b n=false)(J:0<=a):j4 n<=a:=by
 unfold vB at h;cases U:gd n with
 |false=>unfold j4;rw[U];simpa using J
 |true=>have:¬z8 a b (j4 n) (zm n)=true:=j9;rw[H7]at this;omega
theorem aRy:j4 (-1)=0:=rfl
theorem aRx:j4 2=0:=rfl
theorem aRw:j4 0=0:=rfl
theorem QE{o:bk}(h:cp o=true):1<=o.at_.c/\o.at_.c<=1048576/\0<=o.at_.r/\o.at_.r<=63/\j4 o.node<=o.at_.c/\j4 o.parent<=o.at_.c/\gd o.node=true/\(o.kind=1\/o.kind=2):=by
 have hk:=P4 h;unfold cp at h;simp[dp]at h;obtain⟨⟨⟨h1,h2⟩,h3⟩,h4⟩:=h;rw[vz]at h2;refine⟨h2.1,h2.2.1,h2.2.2.1,h2.2.2.2,aCk h3 gf,?_,?_,hk⟩
 ·split at h4
  ·unfold vr at h4;simp only[dp,yt]at h4;exact aCk h4.1.1.2 gf
  ·grind [w9,aRw]
 ·split at h4
  ·unfold vr at h4;simp at h4;exact h4.1.1.1.1
  ·unfold w9 at h4;simp only[dp]at h4;exact h4.1.1.1.1
theorem B6{l:List aH}{n:aH}(h:fi l x=some n):n∈l/\n.id=x:=by unfold fi at h;exact⟨sD h,j9⟩
theorem aRs{l:List aH}{o:bk}(h:∀n∈l,BP q n)(J:cp o=true)(aM:o.at_.c<=q):∀n∈eo l o,BP q n:=by
 cases U:refused l o with
 |true=>grind [eo]
 |false=>
  rw[ya U];obtain⟨S, -, -, -,T,K, -,hk⟩:=QE J;obtain⟨s1,s2⟩:=Td J;have hw:BP q (qd l o):=by
   unfold qd;split
   ·rename_i n O;exact h n (B6 O).1
   ·grind [uU,aRy,Int,List,bk,BP,cp,eo]
  intro n af;rcases Y0 af with rfl|af
  ·unfold jI;split
   ·exact⟨s1,hw.data,hw.id,j9⟩
   ·exact⟨hw.name,s2,hw.id,hw.par⟩
  ·exact h n af
theorem aRt(s:List bk){l:List aH}(h:∀n∈l,BP q n)(hs:∀o∈s,cp o=true/\o.at_.c<=q):∀n∈s.foldl eo l,BP q n:=by
 induction s generalizing l with
 |nil=>exact h
 |cons o s J=>exact J (aRs h (hs o hW).1 (hs o hW).2) λo U=>hs o<|lU _ U
theorem aOa(l:List bk)(n):(l.foldl eo n).length<=n.length+l.length:=by
 induction l generalizing n with
 |nil=>exact bh _
 |cons o l J=>have:=PT n o;grind
structure rH (q:Int) (l:List aH):Prop where
 lA:ml l
 len:l.length<=200
 dg:∀n∈l,BP q n
theorem rH.up{r:Int}{l:List aH}(h:rH q l)(aM:q<=r):rH r l:=⟨h.lA,h.len,λn af=>⟨(h.dg n af).name,(h.dg n af).data,tL (h.dg n af).id aM,tL (h.dg n af).par aM⟩⟩
structure fJ (m:di):Prop where
 nS:Good m.log
 cap:m.log.entries.length<=200
 uj:∀o∈dU m.log,o.at_.c<=m.seen
 seen:0<=m.seen
 rep:0<=m.rep/\m.rep<=63
 dh:m.dh.length<=8
 snap:∀s∈m.dh,rH m.seen s.nodes
 cq:m.cq.length<=8
 watch:∀w∈m.cq,dv w.dir=true/\w.b2.length<=9/\(w.over=false->w.b2.length<=8)
theorem fJ.aRG{m:di}(h:fJ m):(dU m.log).length<=200:=by rw[dU,dq];exact h.cap
theorem fJ.nodes{m:di}(h:fJ m):rH m.seen m.log.nodes:=by rw[Rj h.nS];refine⟨aLF _ aL6,?_,aRt _ (λn af=>j9) λo J=>⟨h.nS.ok o J,h.uj o J⟩⟩;have:=aOa (dU m.log) [];have:=h.aRG;grind
theorem Zu{r:Int}{m:di}(h:og r=(m,0)):fJ m:=by
 unfold og at h;split at h
 ·rename_i J;cases h;exact⟨aLU,by simp[xW],by simp[dU,xW],jU _,J,by simp[xW],by simp[xW],by simp[xW],by simp[xW]⟩
 ·cases h
theorem aRJ(l:List aH):∀(names:List al) (x d:Int),iU l x names=(d,0)->(names=[]/\d=x)\/∃n∈l,n.id=d:=by
 intro names;induction names with
 |nil=>grind [List,Int,iU]
 |cons s names U=>
  intro x d h;rw[iU]at h;split at h
  ·cases J:fz l x s with
   |none=>rw[J]at h;cases h
   |some n=>
    rw[J]at h;rcases U n.id d h with⟨-,rfl⟩|h
    ·exact .inr ⟨n,(GB J).2.1,rfl⟩
    ·exact .inr h
  ·cases h
theorem QL{l:List aH}{names:List al}{d:Int}(h:fp l names=(d,0)):(names=[]/\d=0)\/∃n∈l,n.id=d:=aRJ l names 0 d h
theorem at_mem{l:List aH}{p:al}{d:Int}(h:ft l p=(d,0)):∃J,gD p=some J/\((J=[]/\d=0)\/∃n∈l,n.id=d):=by grind [ft,gD,QL]
theorem aN6{l:List aH}{J:List al}{d:Int}(hl:rH q l)(aM:0<=q)(h:fp l J=(d,0)):j4 d<=q:=by
 rcases QL h with⟨-,rfl⟩|⟨n,af,rfl⟩
 ·exact aM
 ·exact(hl.dg n af).id
theorem LP{p:al}{l:List al}(h:gD p=some l):∀s∈l,sn s=true:=by unfold gD at h;grind [gD,yL,fu]
theorem QU{l:List aH}{p:al}{d:Int}(hl:rH q l)(aM:0<=q)(h:jn l p=(d,s,0)):dv d=true/\j4 d<=q/\sn s=true:=by
 unfold jn at h;split at h
 ·cases h
 ·cases h
 ·rename_i x xs af;split at h
  ·rename_i ay;split at h
   ·rename_i hd;cases h;refine⟨hd,aN6 hl aM<|show fp l (x::xs).dropLast=((fp l (x::xs).dropLast).1,0) by rw[<-ay],?_⟩
    exact LP af _<|List.getLast_mem _
   ·cases h
  grind
theorem aCt{m:di}{s:lu}(h:gJ m=(s,0)):x9 m.seen m.rep=true/\m.log.entries.length<200/\s=⟨m.seen+1,m.rep⟩:=by
 unfold gJ at h;split at h
 ·cases h
 ·split at h
  ·cases h
  ·cases h;exact⟨j9,gf,rfl⟩
def wB(m:di)(o:bk):di:={m with log:=fo m.log o,seen:=m.seen+1}
theorem NF(h:fJ d.m){o:bk}(af:(gJ d.m).2=0)(U:cp {o with at_:=⟨d.m.seen+1,d.m.rep⟩}=true):
  sR d o=(0,{d with m:=wB d.m {o with at_:=⟨d.m.seen+1,d.m.rep⟩},ops:=d.ops++[{o with at_:=⟨d.m.seen+1,d.m.rep⟩}]}):=by
 obtain⟨s,hs⟩:∃s,gJ d.m=(s,0):=⟨_,by rw[<-af]⟩
 obtain⟨h1,h2,rfl⟩:=aCt hs;have J:nG d.m.log {o with at_:=⟨d.m.seen+1,d.m.rep⟩}=0:=by
  unfold nG;rw[ar j9];split
  ·rfl
  ·rw[ar gf]
 unfold sR;simp[hs];unfold oj;rw[J];rfl
theorem Tk{o:bk}(af:(gJ d.m).2≠0):sR d o=((gJ d.m).2,d):=by unfold sR;rw[ar af]
theorem Aq{m:di}(af:(gJ m).2=0):(gJ m).1=⟨m.seen+1,m.rep⟩/\0<=m.seen/\m.seen<1048576/\0<=m.rep/\m.rep<=63/\m.log.entries.length<200:=by
 obtain⟨s,hs⟩:∃s,gJ m=(s,0):=⟨_,by rw[<-af]⟩
 obtain⟨h1,h2,rfl⟩:=aCt hs;rw[KA]at h1;exact⟨j9,h1.1,h1.2.1,h1.2.2.1,h1.2.2.2,h2⟩
theorem aCy{d:Bool}(h1:1<=a)(h2:a<=1048576)(h3:0<=b)(h4:b<=63):gd (oQ a b d)=true/\j4 (oQ a b d)=a/\zm (oQ a b d)=b/\x0 (oQ a b d)=d:=by
 have e:oQ a b d=128 * a+2 * b+(if d then 1 else 0):=by rw[oQ,aC<|by rw[vz];exact⟨h1,h2,h3,h4⟩]
 have J:gd (oQ a b d)=true:=by rw[e,BB];cases d<;>simp<;>omega
 refine⟨J,?_,?_,?_⟩
 ·rw[j4,aC J,e];cases d<;>simp<;>omega
 ·rw[zm,aC J,e];cases d<;>simp<;>omega
 ·rw[x0,J,e];cases d<;>simp<;>omega
theorem Nq{n:Int}(h:j4 n<a):vB a b n=false:=by
 unfold vB;cases gd n with
 |false=>rfl
 |true=>rw[vk,wV,Ne,H7];omega
theorem aQ7{n:Int}(h1:j4 n=a)(h2:zm n=b):vB a b n=false:=by
 unfold vB;cases gd n with
 |false=>rfl
 |true=>rw[vk,wV,Ne,H7];omega
theorem Tb{n:Int}(h1:1<=a)(h2:a<=1048576)(h3:0<=b)(h4:b<=63)(af:gd n=true)(hl:vB a b n=false)(ad:dv p=true)(J:j4 p<a)(hs:sn s=true):cp ⟨⟨a,b⟩,1,n,p,s,[]⟩=true:=by
 unfold cp;have hk:pC a b=true:=by rw[vz];exact⟨h1,h2,h3,h4⟩
 simp[hk,hl];unfold vr;simp[af,ad,hs,Nq J]
theorem aRC{n:Int}{t:al}(h1:1<=a)(h2:a<=1048576)(h3:0<=b)(h4:b<=63)(af:gd n=true)(J:x0 n=true)(hl:vB a b n=false)(ag:t.length<=64):cp ⟨⟨a,b⟩,2,n,0,[],t⟩=true:=by
 unfold cp;have hk:pC a b=true:=by rw[vz];exact⟨h1,h2,h3,h4⟩
 simp[hk,hl];unfold w9;simp only[af,J];simp;omega
theorem aQQ{g:hq}(U:Good g)(o):∀x∈dU (fo g o),x=o\/x∈dU g:=by
 intro x J;rcases(B7 U o).2 with⟨e, -, -⟩|⟨e, -, -⟩
 ·rw[e]at J;exact .inr J
 ·rw[e]at J;exact B1.1 J
theorem aRo{m:di}(h:fJ m){o:bk}(U:o.at_.c<=m.seen+1)(K:m.log.entries.length<200):fJ (wB m o) where
 nS:=(B7 h.nS o).1
 cap:=by have:=(Ex m.log o).1;unfold wB;simp;omega
 uj:=λx J=>by
  rcases aQQ h.nS o x J with rfl|J
  ·exact U
  ·exact tL (h.uj x J)<|by show m.seen<=m.seen+1;omega
 seen:=by have:=h.seen;show 0<=m.seen+1;omega
 rep:=h.rep
 dh:=h.dh
 snap:=λs hs=>(h.snap s hs).up<|by show m.seen<=m.seen+1;omega
 cq:=h.cq
 watch:=h.watch
theorem aRP(e)(b)(l)(he:e.length<=9/\(b=false->e.length<=8)):(ox e b l).1.length<=9/\((ox e b l).2=false->(ox e b l).1.length<=8):=by
 unfold ox;cases b with
 |true=>exact⟨he.1,λh=>j9⟩
 |false=>
  have:=he.2 rfl;rw[ar hW];split
  ·simp;omega
  ·simp only[bw];exact⟨gf,λ_=>gf⟩
theorem aRp(h:fJ d.m)(b5):fJ (Ap b5 d).m where
 nS:=h.nS
 cap:=h.cap
 uj:=h.uj
 seen:=h.seen
 rep:=h.rep
 dh:=h.dh
 snap:=h.snap
 cq:=by show(d.m.cq.map _).length<=8;rw[dq];exact h.cq
 watch:=λw hw=>by obtain⟨v,J,rfl⟩:=bP.1 hw;obtain⟨h1,h2⟩:=h.watch v J;exact⟨h1,aRP _ _ _ h2⟩
theorem Nt{m:di}(h:fJ m){s:List Ec}{w:List o5}{n:Int}(h1:s.length<=8)(h2:∀x∈s,rH m.seen x.nodes)(h3:w.length<=8)(h4:∀x∈w,dv x.dir=true/\x.b2.length<=9/\(x.over=false->x.b2.length<=8)):
  fJ {m with dh:=s,cq:=w,next:=n}:=
 ⟨h.nS,h.cap,h.uj,h.seen,h.rep,h1,h2,h3,h4⟩
theorem aNS(n:Int)(l:List o5):(vy n l).length=l.length/\∀w∈vy n l,∃v∈l,w.dir=v.dir/\w.n=v.n/\w.over=v.over/\(w.b2=v.b2\/w.b2=[]):=by
 induction l with
 |nil=>exact⟨rfl,λw hw=>p2 hw⟩
 |cons x l J=>
  unfold vy;split
  ·refine⟨rfl,λw hw=>?_⟩;rcases db.1 hw with rfl|hw
   ·exact⟨x,hW,rfl,rfl,rfl,.inr rfl⟩
   ·exact⟨w,lU _ hw,rfl,rfl,rfl,.inl rfl⟩
  ·refine⟨j9,λw hw=>?_⟩;rcases db.1 hw with rfl|hw
   ·exact⟨w,hW,rfl,rfl,rfl,.inl rfl⟩
   ·obtain⟨v,U,q⟩:=J.2 w hw;exact⟨v,lU _ U,q⟩
theorem aNC{n:Int}(h:gd n=true)(hd:dv n=false):x0 n=true:=by unfold dv at hd;simp[h]at hd;exact hd.2
theorem Ce{l:List aH}(h:ml l){n:aH}(af:n∈l):gd n.id=true:=((zl l).1 h.cG).1 n af
def Fe(m:di)(c:cg)(dir:Int)(s:al):bk:=⟨⟨m.seen+1,m.rep⟩,1,oQ (m.seen+1) m.rep<|decide (c.kind=1),dir,s,[]⟩
def Cr(d:cB)(o:bk):Int×cB:=(0,{d with m:=wB d.m o,ops:=d.ops++[o]})
theorem Q2(h:fJ d.m):(∃e,e≠0/\Am c d=(e,d))\/
  ∃dir s,c.path≠[47]/\jn d.m.log.nodes c.path=(dir,s,0)/\fz d.m.log.nodes dir s=none/\(gJ d.m).2=0/\cp (Fe d.m c dir s)=true/\Am c d=Cr d (Fe d.m c dir s):=by
 unfold Am;by_cases h1:c.path=[47]
 ·simp_all
 rw[ar h1];obtain⟨⟨dir,s,e⟩,J⟩:∃x,jn d.m.log.nodes c.path=x:=⟨_,rfl⟩;rw[J];by_cases h2:e=0
 ·subst h2;obtain⟨S,a2,a3⟩:=QU h.nodes h.seen J;cases T:fz d.m.log.nodes dir s with
  |some n=>exact .inl ⟨190,ko,aC rfl⟩
  |none=>
   by_cases h3:(gJ d.m).2=0
   ·rw[aC h3];obtain⟨V,fr,Z,U,K,n6⟩:=Aq h3;rw[V];obtain⟨i1,i2,i3,i4⟩:=aCy (show 1<=d.m.seen+1 by omega) (show d.m.seen+1<=1048576 by omega) U K
    have O:=Tb gf gf U K i1 (aQ7 i2 i3) S gf a3;exact .inr ⟨dir,s,h1,rfl,T,h3,O,NF h h3 O⟩
   ·rw[ar h3];exact .inl ⟨_,h3,rfl⟩
 ·rw[ar h2];exact .inl ⟨e,h2,rfl⟩
def Is(m:di)(c:cg)(id:Int):bk:=⟨⟨m.seen+1,m.rep⟩,2,id,0,[],c.data⟩
theorem Qw(h:fJ d.m)(hd:c.data.length<=64):(∃e,e≠0/\Aa c d=(e,d))\/
  ∃id,ft d.m.log.nodes c.path=(id,0)/\dv id=false/\(gJ d.m).2=0/\cp (Is d.m c id)=true/\Aa c d=Cr d (Is d.m c id):=by
 unfold Aa;obtain⟨⟨id,e⟩,U⟩:∃x,ft d.m.log.nodes c.path=x:=⟨_,rfl⟩;rw[U];by_cases h2:e=0
 ·subst h2;cases J:dv id with
  |true=>grind
  |false=>
   by_cases h3:(gJ d.m).2=0
   ·obtain⟨V,fr,Z,S,T,n6⟩:=Aq h3;obtain⟨I, -,⟨-,rfl⟩|⟨n,af,rfl⟩⟩:=at_mem U
    ·cases J
    ·have K:=Ce h.nodes.lA af;have O:cp (Is d.m c n.id)=true:=aRC gf gf S T K (aNC K J) (Nq (oC<|(h.nodes.dg n af).id)) hd
     exact .inr ⟨n.id,rfl,J,h3,O,NF h h3 O⟩
   ·exact .inl ⟨_,h3,Tk h3⟩
 ·rw[ar h2];exact .inl ⟨e,h2,rfl⟩
def sQ(m:di)(id dir:Int)(s:al):bk:=⟨⟨m.seen+1,m.rep⟩,1,id,dir,s,[]⟩
theorem Z5{m:di}(h:fJ m){p:al}(ad:p≠[47])(J:ft m.log.nodes p=(id,0)):gd id=true/\j4 id<=m.seen/\∃n∈m.log.nodes,n.id=id:=by
 obtain⟨K,af,⟨U, -⟩|⟨n,af,rfl⟩⟩:=at_mem J
 ·subst U;unfold gD at af;rw[ar ad]at af;split at af
  ·cases af
  ·split at af
   ·split at af
    ·exact absurd (tH af)<|OA _ _
    ·cases af
   ·cases af
 ·exact⟨Ce h.nodes.lA af,(h.nodes.dg n af).id,n,af,rfl⟩
theorem QF(h:fJ d.m):(∃e,e≠0/\Ad c d=(e,d))\/
  ∃id dir s,c.path≠[47]/\c.to≠[47]/\ft d.m.log.nodes c.path=(id,0)/\jn d.m.log.nodes c.to=(dir,s,0)/\fz d.m.log.nodes dir s=none/\dir≠id/\(n4 d.m.log.nodes dir).contains id=false/\(gJ d.m).2=0/\
   cp (sQ d.m id dir s)=true/\Ad c d=Cr d (sQ d.m id dir s):=by
 unfold Ad;by_cases h1:c.path=[47]\/c.to=[47]
 ·simp_all
 rw[ar h1];obtain⟨⟨id,e⟩,U⟩:∃x,ft d.m.log.nodes c.path=x:=⟨_,rfl⟩;rw[U];simp only;by_cases h2:e=0
 ·subst h2;rw[aC rfl];obtain⟨⟨dir,s,f⟩,K⟩:∃x,jn d.m.log.nodes c.to=x:=⟨_,rfl⟩;rw[K];simp only;by_cases h3:f=0
  ·subst h3;rw[aC rfl];obtain⟨S,a2,a3⟩:=QU h.nodes h.seen K;cases T:fz d.m.log.nodes dir s with
   |some n=>exact .inl ⟨190,ko,aC rfl⟩
   |none=>
    by_cases h4:dir=id\/(n4 d.m.log.nodes dir).contains id=true
    ·rw[aC h4];exact .inl ⟨192,ko,rfl⟩
    rw[ar h4];by_cases J:(gJ d.m).2=0
    ·obtain⟨z,fr,im,V,Z,n6⟩:=Aq J;obtain⟨I,gm, -⟩:=Z5 h (λe=>h1<|.inl e) U;have O:cp (sQ d.m id dir s)=true:=Tb gf gf V Z I (Nq gf) S gf a3;exact .inr ⟨id,dir,s,λe=>h1<|.inl e,λe=>h1<|.inr e,rfl,rfl,T,λe=>h4<|.inl e,by simpa using λe=>h4<|.inr e,J,O,NF h J O⟩
    ·exact .inl ⟨_,J,Tk J⟩
  ·rw[ar h3];exact .inl ⟨f,h3,rfl⟩
 ·rw[ar h2];exact .inl ⟨e,h2,rfl⟩
theorem Qr(h:fJ d.m):(∃e,e≠0/\BA c d=(e,d))\/
  ∃id s,c.path≠[47]/\ft d.m.log.nodes c.path=(id,0)/\(∃x xs,gD c.path=some (x::xs)/\s=(x::xs).getLast hW)/\(gJ d.m).2=0/\cp (sQ d.m id 2 s)=true/\BA c d=Cr d (sQ d.m id 2 s):=by
 unfold BA;by_cases h1:c.path=[47]
 ·simp_all
 rw[ar h1];obtain⟨⟨id,e⟩,U⟩:∃x,ft d.m.log.nodes c.path=x:=⟨_,rfl⟩;rw[U];by_cases h2:e=0
 ·subst h2;rw[aC rfl];split
  ·rename_i x xs af;by_cases J:(gJ d.m).2=0
   ·obtain⟨V,fr,Z,O,S,n6⟩:=Aq J;obtain⟨T,I, -⟩:=Z5 h h1 U;have K:cp (sQ d.m id 2<|(x::xs).getLast hW)=true:=Tb gf gf O S T (Nq gf) (rfl) (by rw[aRx];omega)<|LP af _ (List.getLast_mem _)
    exact .inr ⟨id,_,h1,rfl,⟨x,xs,af,rfl⟩,J,K,NF h J K⟩
   ·exact .inl ⟨_,J,Tk J⟩
  ·exact .inl ⟨194,ko,rfl⟩
 ·rw[ar h2];exact .inl ⟨e,h2,rfl⟩
theorem ZJ{b:al}{o:bk}(h:pB b=some (o,r)):cp o=true:=by grind [pB,kv]
theorem aR3:∀(k:Nat) (b:al) (l:List bk),oW k b=some l->∀o∈l,cp o=true:=by
 intro k;induction k with
 |zero=>grind [oW]
 |succ k U=>
  intro b l h;unfold oW at h;split at h
  ·cases h;intro o K;cases K
  ·simp only[kv]at h;obtain⟨⟨o,r⟩,h1,h2⟩:=h;simp at h2;obtain⟨t,h3,rfl⟩:=h2;intro x J;rcases db.1 J with rfl|J
   ·exact ZJ h1
   ·exact U r t h3 x J
theorem Ew{b:al}{l:List bk}(h:jC b=some l):∀o∈l,cp o=true:=aR3 _ _ _ h
theorem L9(g:hq):∀(l acc:List bk),∀x∈gw g acc l,x∈acc\/x∈l:=by intro l;induction l<;>grind [gw]
theorem aMS:∀(l:List bk) (d:cB),(∀o∈l,cp o=true)->d.m.log.entries.length+l.length<=200->mR d l=(0,{d with m:={d.m with log:=eX d.m.log l},ops:=d.ops++l}):=by
 intro l;induction l with
 |nil=>simp[mR,eX]
 |cons o l U=>
  intro d K S;have O:nG d.m.log o=0:=by unfold nG;grind
  have hk:oj d o=(0,{d with m:={d.m with log:=fo d.m.log o},ops:=d.ops++[o]}):=by unfold oj;rw[aC O]
  have hl:=(Ex d.m.log o).1;rw[mR,hk];rw[U _ (λx J=>K x<|lU _ J) j9]
  simp[eX]
theorem Iu(l:List bk):∀(n),n<=l.foldl (λn o=>mK n o.at_) n/\∀o∈l,cp o=true->o.at_.c<=l.foldl (λn o=>mK n o.at_) n:=by
 induction l with
 |nil=>grind
 |cons x l K=>
  intro n;obtain⟨i1,i2⟩:=K<|mK n x.at_;refine⟨tL (by unfold mK;split<;>omega) i1,λo J U=>?_⟩
  rcases db.1 J with rfl|J
  ·refine tL ?_ i1;obtain⟨O,S,T,V, -⟩:=QE U;unfold mK;rw[aC (by rw[vz];exact⟨O,S,T,V⟩)]
   omega
  ·exact i2 o J U
theorem aMX(l):∀g,(eX g l).entries.length<=g.entries.length+l.length:=by
 induction l with
 |nil=>exact λg=>bh _
 |cons o l J=>intro g;have:=J<|fo g o;have:=(Ex g o).1;rw[eX,cd];omega
def Dm(m:di)(l:List bk):di:={m with log:=eX m.log<|gw m.log [] l,seen:=l.foldl (λn o=>mK n o.at_) m.seen}
theorem aCp:(∃e,e≠0/\Cj c d=(e,d))\/
  ∃l,jC c.data=some l/\d.m.log.entries.length+(gw d.m.log [] l).length<=200/\
   Cj c d=(0,{m:=Dm d.m l,a:={d.a with n:=((gw d.m.log [] l).length)},ops:=d.ops++gw d.m.log [] l}):=by
 unfold Cj;cases J:jC c.data with
 |none=>exact .inl ⟨50,hW,rfl⟩
 |some l=>
  simp only;by_cases h1:200<d.m.log.entries.length+((gw d.m.log [] l).length:Int)
  ·grind
  rw[ar h1];have U:∀o∈gw d.m.log [] l,cp o=true:=λo K=>by
   rcases L9 _ _ _ o K with h|h
   ·cases h
   ·exact Ew J o h
  rw[aMS _ d U gf];exact .inr ⟨l,rfl,gf,rfl⟩
theorem aRn{m:di}(h:fJ m){l:List bk}(K:∀o∈l,cp o=true)(O:m.log.entries.length+(gw m.log [] l).length<=200):fJ (Dm m l) where
 nS:=YG h.nS _
 cap:=by have:=aMX (gw m.log [] l) m.log;unfold Dm;simp;omega
 uj:=λx J=>by
  rcases(YZ h.nS _).1 x J with J|⟨J,U⟩
  ·exact tL (h.uj x J) (Iu l m.seen).1
  ·rcases L9 _ _ _ x J with J|J
   ·cases J
   ·exact(Iu l m.seen).2 x J U
 seen:=tL h.seen (Iu l m.seen).1
 rep:=h.rep
 dh:=h.dh
 snap:=λs hs=>(h.snap s hs).up (Iu l m.seen).1
 cq:=h.cq
 watch:=h.watch
theorem QJ(h:kY c=true)(hk:c.kind=3):c.data.length<=64:=by unfold kY at h;rw[hk]at h;have ad:py 3=some 5:=rfl;rw[ad]at h;simp at h;have J:=h.2.2.1;rw[ng,ar ko,iK]at J;omega
theorem Q0{m:di}(h:fJ m)(ao:kY c=true)(ay:(jD c ⟨m,dD,[]⟩).1=0):fJ (jD c ⟨m,dD,[]⟩).2.m:=by
 have put:∀{o:bk} {r:Int×cB},r=Cr ⟨m,dD,[]⟩ o->o.at_.c<=m.seen+1->(gJ m).2=0->fJ r.2.m:=λe h1 h2=>by subst e;exact aRo h h1 (Aq h2).2.2.2.2.2
 have err:∀{e:Int} {r:Int×cB},e≠0->r=(e,⟨m,dD,[]⟩)->r.1=0->fJ r.2.m:=λh1 e h2=>by subst e;exact absurd h2 h1
 unfold jD at ay ⊢;by_cases k1:c.kind=1\/c.kind=2
 ·rw[aC k1]at ay ⊢;rcases Q2 (d:=⟨m,dD,[]⟩) h with⟨e,he,ax⟩|⟨dir,s, -, -, -,af, -,ax⟩
  ·exact err he ax ay
  ·exact put ax (jU _) af
 rw[ar k1]at ay ⊢;by_cases k3:c.kind=3
 ·rw[aC k3]at ay ⊢;rcases Qw (d:=⟨m,dD,[]⟩) h (QJ ao k3)with⟨e,he,ax⟩|⟨id, -, -,af, -,ax⟩
  ·exact err he ax ay
  ·exact put ax (jU _) af
 rw[ar k3]at ay ⊢;by_cases k4:c.kind=4
 ·grind [EA]
 rw[ar k4]at ay ⊢;by_cases U:c.kind=5
 ·rw[aC U]at ay ⊢;rcases QF (d:=⟨m,dD,[]⟩) h with⟨e,he,ax⟩|⟨id,dir,s, -, -, -, -, -, -, -,af, -,ax⟩
  ·exact err he ax ay
  ·exact put ax (jU _) af
 rw[ar U]at ay ⊢;by_cases K:c.kind=6
 ·rw[aC K]at ay ⊢;rcases Qr (d:=⟨m,dD,[]⟩) h with⟨e,he,ax⟩|⟨id,s, -, -, -,af, -,ax⟩
  ·exact err he ax ay
  ·exact put ax (jU _) af
 rw[ar K]at ay ⊢;by_cases O:c.kind=7
 ·rw[aC O]at ay ⊢;unfold Gl;split
  ·exact h
  ·split
   ·split<;>exact h
   ·exact h
 rw[ar O]at ay ⊢;by_cases S:c.kind=8
 ·rw[aC S]at ay ⊢;unfold ET;split
  ·exact h
  ·rename_i hl;refine Nt h ?_ (λx J=>?_) h.cq h.watch
   ·rw[bw];simp only[cd,dZ]at hl ⊢;omega
   ·rcases fH.1 J with J|J
    ·exact h.snap x J
    ·rw[dH]at J;subst J;exact h.nodes
 rw[ar S]at ay ⊢;by_cases T:c.kind=9
 ·rw[aC T]at ay ⊢;unfold EU;split
  ·exact h
  ·exact Nt h (e1 (o1 ..) h.dh) (λx J=>h.snap x (mg.1 J).1) (e1 (o1 ..) h.cq) λx J=>h.watch x (mg.1 J).1
 rw[ar T]at ay ⊢;by_cases V:c.kind=10
 ·rw[aC V]at ay ⊢;unfold EK;split
  ·split
   ·rename_i eH;split
    ·exact h
    ·rename_i hl;refine Nt h h.dh h.snap ?_ (λx J=>?_)
     ·rw[bw];simp only[cd,dZ]at hl ⊢;omega
     ·rcases fH.1 J with J|J
      ·exact h.watch x J
      ·rw[dH]at J;subst J;exact⟨eH,hW,hW⟩
   ·exact h
  ·exact h
 rw[ar V]at ay ⊢;by_cases Z:c.kind=11
 ·rw[aC Z]at ay ⊢;unfold EV;split
  ·exact h
  ·obtain⟨ax,aq⟩:=aNS c.n m.cq;refine Nt h h.dh h.snap (by rw[ax];exact h.cq) λx J=>?_
   obtain⟨v,aF,aL, -,bC,aR⟩:=aq x J;obtain⟨I,cY,gy⟩:=h.watch v aF;rw[aL,bC];rcases aR with q|q<;>rw[q]
   ·exact⟨I,cY,gy⟩
   ·exact⟨I,hW,hW⟩
 rw[ar Z]at ay ⊢;by_cases z:c.kind=12
 ·rw[aC z]at ay ⊢;exact h
 rw[ar z]at ay ⊢;rcases aCp with⟨e,he,ax⟩|⟨l,aw,my,ax⟩
 ·exact err he ax ay
 ·rw[ax];exact aRn h (Ew aw) my
theorem QY{m:di}(h:fJ m)(c):fJ (eM m c).1:=by
 unfold eM;split
 ·exact h
 ·split
  ·rename_i ay;have:=Q0 h j9 ay;split
   ·exact this
   ·exact aRp this _
  ·exact h
def Kh(m nA:di):di:={nA with cq:=nA.cq.map (QK m.log.nodes nA.log.nodes)}
theorem Q4(h:kY c=true):c.kind=1\/c.kind=2\/c.kind=3\/c.kind=4\/c.kind=5\/c.kind=6\/c.kind=7\/c.kind=8\/c.kind=9\/c.kind=10\/c.kind=11\/c.kind=12\/c.kind=13:=by grind [kY,py]
inductive HE (m:di) (c:cg):Int×cB->Prop
 |err (e:Int) (d:cB) (he:e≠0):HE m c (e,d)
 |put (o:bk) (hk:c.kind=1\/c.kind=2\/c.kind=3\/c.kind=5\/c.kind=6) (af:(gJ m).2=0) (aD:cp o=true) (aG:o.at_=⟨m.seen+1,m.rep⟩):HE m c (Cr ⟨m,dD,[]⟩ o)
 |oT (nA:di) (a:om) (aG:a.err=0) (h1:nA.log=m.log) (h2:nA.seen=m.seen) (h3:nA.rep=m.rep) (h4:(c.kind=4\/c.kind=7\/c.kind=12)->nA=m):HE m c (0,⟨nA,a,[]⟩)
 |merge (l:List bk) (hk:c.kind=13) (aw:jC c.data=some l) (ao:m.log.entries.length+(gw m.log [] l).length<=200):
   HE m c (0,⟨Dm m l,{dD with n:=((gw m.log [] l).length:Int)},gw m.log [] l⟩)
theorem aSN{m:di}(h:fJ m)(U:kY c=true):HE m c (jD c ⟨m,dD,[]⟩):=by
 have hk:=Q4 U;unfold jD;by_cases k1:c.kind=1\/c.kind=2
 ·rw[aC k1];rcases Q2 (d:=⟨m,dD,[]⟩) h with⟨e,he,ax⟩|⟨dir,s, -, -, -,af,J,ax⟩
  ·rw[ax];exact .err _ _ he
  ·rw[ax];exact .put _ gf af J rfl
 rw[ar k1];by_cases k3:c.kind=3
 ·rw[aC k3];rcases Qw (d:=⟨m,dD,[]⟩) h (QJ U k3)with⟨e,he,ax⟩|⟨id, -, -,af,J,ax⟩
  ·rw[ax];exact .err _ _ he
  ·rw[ax];exact .put _ gf af J rfl
 rw[ar k3];by_cases k4:c.kind=4
 ·rw[aC k4];unfold EA;split
  ·exact .err _ _ ko
  ·split
   ·split
    ·exact .err _ _ ko
    ·exact .oT _ _ rfl rfl rfl rfl λ_=>rfl
   ·rename_i h;exact .err _ _ h
 rw[ar k4];by_cases K:c.kind=5
 ·rw[aC K];rcases QF (d:=⟨m,dD,[]⟩) h with⟨e,he,ax⟩|⟨id,dir,s, -, -, -, -, -, -, -,af,J,ax⟩
  ·rw[ax];exact .err _ _ he
  ·rw[ax];exact .put _ gf af J rfl
 rw[ar K];by_cases O:c.kind=6
 ·rw[aC O];rcases Qr (d:=⟨m,dD,[]⟩) h with⟨e,he,ax⟩|⟨id,s, -, -, -,af,J,ax⟩
  ·rw[ax];exact .err _ _ he
  ·rw[ax];exact .put _ gf af J rfl
 rw[ar O];by_cases S:c.kind=7
 ·rw[aC S];unfold Gl;split
  ·exact .err _ _ ko
  ·split
   ·split
    ·exact .oT _ _ rfl rfl rfl rfl λ_=>rfl
    ·exact .err _ _ ko
   ·rename_i h;exact .err _ _ h
 rw[ar S];by_cases T:c.kind=8
 ·rw[aC T];unfold ET;split
  ·exact .err _ _ ko
  ·exact .oT _ _ rfl rfl rfl rfl λh=>gf
 rw[ar T];by_cases V:c.kind=9
 ·rw[aC V];unfold EU;split
  ·exact .err _ _ ko
  ·exact .oT _ _ rfl rfl rfl rfl λh=>gf
 rw[ar V];by_cases Z:c.kind=10
 ·rw[aC Z];unfold EK;split
  ·split
   ·split
    ·exact .err _ _ ko
    ·exact .oT _ _ rfl rfl rfl rfl λh=>gf
   ·exact .err _ _ ko
  ·rename_i h;exact .err _ _ h
 rw[ar Z];by_cases I:c.kind=11
 ·rw[aC I];unfold EV;split
  ·exact .err _ _ ko
  ·exact .oT _ _ rfl rfl rfl rfl λh=>gf
 rw[ar I];by_cases z:c.kind=12
 ·rw[aC z];exact .oT _ _ rfl rfl rfl rfl λ_=>rfl
 rw[ar z];rcases aCp with⟨e,he,ax⟩|⟨l,aw,my,ax⟩
 ·rw[ax];exact .err _ _ he
 ·rw[ax];exact .merge l gf aw my
inductive D3 (m:di) (c:cg):di×om×List bk->Prop
 |err (e:Int) (he:e≠0):D3 m c (m,Fq e,[])
 |put (o:bk) (hk:c.kind=1\/c.kind=2\/c.kind=3\/c.kind=5\/c.kind=6) (af:(gJ m).2=0) (aD:cp o=true) (aG:o.at_=⟨m.seen+1,m.rep⟩):D3 m c (Kh m<|wB m o,dD,[o])
 |oT (nA:di) (a:om) (aG:a.err=0) (h1:nA.log=m.log) (h2:nA.seen=m.seen) (h3:nA.rep=m.rep) (h4:(c.kind=4\/c.kind=7\/c.kind=12)->nA=m):D3 m c (nA,a,[])
 |merge (l:List bk) (hk:c.kind=13) (aw:jC c.data=some l) (ao:m.log.entries.length+(gw m.log [] l).length<=200):
   D3 m c (if gw m.log [] l=[]then Dm m l else Kh m (Dm m l),{dD with n:=((gw m.log [] l).length:Int)},gw m.log [] l)
theorem PC{m:di}(h:fJ m)(c):D3 m c (eM m c):=by
 unfold eM;split
 ·exact .err 180 hW
 ·rename_i J;have hs:=aSN h<|oq J
  generalize jD c ⟨m,dD,[]⟩=r at hs ⊢;cases hs with
  |err e d he=>rw[ar he];exact .err e he
  |put o hk af K U=>exact .put o hk af K U
  |oT O a U h1 h2 h3 h4=>exact .oT O a U h1 h2 h3 h4
  |merge l hk S J=>
   have hm:=D3.merge l hk S J;rw[aC rfl];split
   ·grind
   ·rename_i e;rw[ar e]at hm;exact hm
theorem aOW{g:hq}{a:lu}:rq g.entries a=false↔∀x∈dU g,x.at_≠a:=by grind [lu,rq,dU]
theorem Il(g):(dU g).length=g.entries.length:=by rw[dU,dq]
theorem QN{g:hq}(h:Good g){o:bk}(U:cp o=true)(af:∀x∈dU g,x.at_≠o.at_)(hl:g.entries.length<200):dU (fo g o)=ue o (dU g):=by
 rcases(B7 h o).2 with⟨-, -,e|⟨x,J,e⟩|e⟩|⟨e, -, -⟩
 ·rw[U]at e;cases e
 ·exact absurd e<|af x J
 ·rw[Il]at e;omega
 ·exact e
theorem aLX(l):∀{g:hq},Good g->(∀o∈l,cp o=true)->l.Pairwise (λa b=>a.at_≠b.at_)->(∀o∈l,∀x∈dU g,x.at_≠o.at_)->g.entries.length+l.length<=200->
  (∀x,x∈dU (eX g l)↔x∈dU g\/x∈l)/\(eX g l).entries.length=g.entries.length+l.length:=by
 induction l with
 |nil=>grind [eX]
 |cons o l S=>
  intro g K O ad af hl;rw[cd]at hl;rw[List.pairwise_cons]at ad;have e:=QN K (O o hW) (af o hW) gf;have el:(fo g o).entries.length=g.entries.length+1:=by rw[<-Il,e,P3,Il]
  obtain⟨i1,i2⟩:=S (B7 K o).1 (λx J=>O x<|lU _ J) ad.2 (λx J y U=>by
   rw[e]at U;rcases B1.1 U with rfl|U
   ·exact ad.1 x J
   grind) gf
  refine⟨λx=>?_,by rw[eX,i2,el,cd];omega⟩
  rw[eX,i1,e,B1,db];constructor
  ·rintro((h|h)|h)
   ·exact .inr<|.inl h
   ·exact .inl h
   ·exact .inr<|.inr h
  ·rintro(h|h|h)
   ·exact .inl<|.inr h
   ·exact .inl<|.inl h
   ·exact .inr h
theorem aLG(g):∀(l acc),acc.Pairwise (λa b=>a.at_≠b.at_)->(∀o∈acc,∀x∈dU g,x.at_≠o.at_)->(gw g acc l).Pairwise (λa b=>a.at_≠b.at_)/\(∀o∈gw g acc l,∀x∈dU g,x.at_≠o.at_):=by
 intro l;induction l with
 |nil=>exact λacc h1 h2=>⟨h1,h2⟩
 |cons o l U=>
  intro acc h1 h2;rw[gw];split
  ·rename_i J;simp at J;have af:=aOW.1 J.1;grind
  ·exact U _ h1 h2
structure hf (t:fw) (n:Nat) (has:Nat->List Int):Prop where
 xz:t.held.Pairwise λa b=>a.lock≠b.lock
 pY:∀(k:Int) (j:Int),(⟨k,j⟩:dI)∈t.held↔∃i:Nat,j=(i:Int)/\i<n/\k∈has i
 uy:∀i,(has i).Nodup
 yi:t.waits.Pairwise λa b=>a.aZ≠b.aZ
 sw:∀w∈t.waits,∃i:Nat,w.aZ=(i:Int)/\i<n/\w.lock∉has i/\∃h∈t.held,h.lock=w.lock
theorem hf.one{t:fw}{has:Nat->List Int}(h:hf t n has)(U:(⟨k,a⟩)∈t.held)(K:(⟨k,b⟩)∈t.held):a=b:=by
 have key:∀l:List dI,(l.Pairwise λa b=>a.lock≠b.lock)->(⟨k,a⟩)∈l->(⟨k,b⟩)∈l->a=b:=by
  intro l;induction l with
  |nil=>intro _ h;cases h
  |cons x l O=>
   intro ad h1 h2;rw[List.pairwise_cons]at ad;rcases db.1 h1 with ax|m1<;>rcases db.1 h2 with J|m2
   ·rw[<-ax]at J;exact(dI.mk.inj J).2.symm
   ·subst ax;exact absurd rfl<|ad.1 ⟨k,b⟩ m2
   ·subst J;exact absurd rfl<|ad.1 ⟨k,a⟩ m1
   ·exact O ad.2 m1 m2
 exact key _ h.xz U K
theorem hf.Tc{t:fw}{has:Nat->List Int}(h:hf t n has){i:Nat}(hi:i<n)(J:j<n)(h1:k∈has i)(h2:k∈has j):i=j:=by have:=h.one ((h.pY k i).2 ⟨i,rfl,hi,h1⟩)<|(h.pY k j).2 ⟨j,rfl,J,h2⟩;omega
theorem ZC{l:List dI}{j:Int}(h:xk l k=some j):(⟨k,j⟩)∈l:=by obtain⟨x,J,rfl⟩:=gA.1 h;have h2:=List.find?_some J;simp at h2;rw[<-h2];exact(sD J)
theorem aP9{l:List dI}(h:xk l k=none):∀x∈l,x.lock≠k:=by unfold xk at h;rw[Option.map_eq_none_iff,List.find?_eq_none]at h;intro x J e;exact h x J<|dr e
theorem QI{l:List dI}{i:Int}(h:vt l i=none):∀x∈l,x.aZ≠i:=by unfold vt at h;rw[Option.map_eq_none_iff,List.find?_eq_none]at h;intro x J e;exact h x J<|dr e
theorem Zv:hf Kg 0 λ_=>[]:=⟨.nil,λk j=>⟨λh=>by simp[Kg]at h,fun⟨i,_,h,_⟩=>absurd h<|Nat.not_lt_zero _⟩,λ_=>List.nodup_nil,.nil,λw h=>by simp[Kg]at h⟩
theorem hf.start{t:fw}{has:Nat->List Int}(h:hf t n has)(af:has n=[]):hf t (n+1) has where
 xz:=h.xz
 pY:=λk j=>by
  rw[h.pY k j];constructor
  ·rintro⟨i,e,hi,hk⟩;exact⟨i,e,gf,hk⟩
  ·rintro⟨i,e,hi,hk⟩;refine⟨i,e,?_,hk⟩;by_cases J:i=n
   ·subst J;rw[af]at hk;cases hk
   ·omega
 uy:=h.uy
 yi:=h.yi
 sw:=λw hw=>by obtain⟨i,e,hi,h1,h2⟩:=h.sw w hw;exact⟨i,e,gf,h1,h2⟩
def kW(has:Nat->List Int)(i:Nat)(l:List Int):Nat->List Int:=λj=>if j=i then l else has j
theorem me(has)(i)(l):kW has i l i=l:=aC rfl
theorem j8(has){i:Nat}(h:j≠i)(l):kW has i l j=has j:=ar h
theorem hf.take{t:fw}{has:Nat->List Int}(h:hf t n has){i:Nat}(hi:i<n)(hw:vt t.waits i=none)(V:xk t.held k=none):hf {t with held:=t.held++[⟨k,i⟩]} n (kW has i<|has i++[k]):=by
 have Z:=aP9 V;have hk:∀j,j<n->k∉has j:=λj I hk=>Z _ ((h.pY k j).2 ⟨j,rfl,I,hk⟩) rfl;refine⟨?_,λk' j=>?_,λj=>?_,h.yi,λw T=>?_⟩
 ·rw[List.pairwise_append];exact⟨h.xz,List.pairwise_singleton _ _,λa z b aa=>j9⟩
 ·simp only[fH,dH];constructor
  ·rintro(h1|h1)
   ·obtain⟨O,e,S,K⟩:=(h.pY k' j).1 h1;refine⟨O,e,S,?_⟩;by_cases U:O=i
    ·subst U;rw[me];exact List.mem_append_left _ K
    ·rw[j8 _ U];exact K
   ·cases h1;exact⟨i,rfl,hi,by rw[me];simp⟩
  ·rintro⟨O,e,S,K⟩;by_cases U:O=i
   ·subst U;rw[me,fH,dH]at K;rcases K with K|rfl
    ·exact .inl<|(h.pY k' j).2 ⟨O,e,S,K⟩
    ·exact .inr<|by rw[e]
   ·rw[j8 _ U]at K;exact .inl<|(h.pY k' j).2 ⟨O,e,S,K⟩
 ·by_cases U:j=i
  ·subst U;rw[me,List.nodup_append];exact⟨h.uy j,hW,λa z b aa e=>j9⟩
  ·rw[j8 _ U];exact h.uy j
 ·obtain⟨O,e,S,h1,x,J,h2⟩:=h.sw w T;exact⟨O,e,S,by rw[j8 _ (λU=>QI hw w T<|by rw[e,U])];exact h1,x,List.mem_append_left _ J,h2⟩
theorem hf.wait{t:fw}{has:Nat->List Int}(h:hf t n has){i:Nat}(hi:i<n)(hw:vt t.waits i=none)(hk:k∉has i){j:Int}(K:xk t.held k=some j):hf {t with waits:=t.waits++[⟨k,i⟩]} n has:=by
 refine⟨h.xz,h.pY,h.uy,?_,λw J=>?_⟩
 ·rw[List.pairwise_append];exact⟨h.yi,List.pairwise_singleton _ _,λa O b U=>by rw[dH]at U;subst U;exact QI hw a O⟩
 ·rw[fH,dH]at J;rcases J with J|rfl
  ·exact h.sw w J
  ·exact⟨i,rfl,hi,hk,_,ZC K,rfl⟩
def xn(has:Nat->List Int)(i:Nat)(k:Int):Option Int->Nat->List Int
 |none=>kW has i<|(has i).filter λx=> !decide (x=k)
 |some j=>kW (kW has i ((has i).filter λx=> !decide (x=k))) j.toNat<|has j.toNat++[k]
theorem aNV{l:List dI}{x:dI}(ad:l.Pairwise λa b=>a.lock≠b.lock)(J:x∈l):∀y,y∈l.erase x↔y∈l/\y.lock≠x.lock:=by
 induction l with
 |nil=>cases J
 |cons a l O=>
  rw[List.pairwise_cons]at ad;intro y;by_cases e:a=x
  ·subst e;rw[List.erase_cons_head];constructor
   ·intro U;exact⟨lU _ U,λe=>ad.1 y U e.symm⟩
   ·rintro⟨U,S⟩;rcases db.1 U with rfl|U
    ·exact absurd rfl S
    ·exact U
  ·have K:=(db.1 J).resolve_left λh=>e h.symm;rw[List.erase_cons_tail j9,db,O ad.2 K y,db];constructor
   ·rintro(rfl|⟨h1,h2⟩)
    ·exact⟨.inl rfl,ad.1 x K⟩
    ·exact⟨.inr h1,h2⟩
   ·rintro⟨rfl|h1,h2⟩
    ·exact .inl rfl
    ·exact .inr ⟨h1,h2⟩
theorem ZD{l:List dI}{x:dI}(ad:l.Pairwise λa b=>a.aZ≠b.aZ)(J:x∈l):∀y,y∈l.erase x↔y∈l/\y.aZ≠x.aZ:=by
 induction l with
 |nil=>cases J
 |cons a l O=>
  rw[List.pairwise_cons]at ad;intro y;by_cases e:a=x
  ·subst e;rw[List.erase_cons_head];constructor
   ·intro U;exact⟨lU _ U,λe=>ad.1 y U e.symm⟩
   ·rintro⟨U,S⟩;rcases db.1 U with rfl|U
    ·exact absurd rfl S
    ·exact U
  ·have K:=(db.1 J).resolve_left λh=>e h.symm;rw[List.erase_cons_tail j9,db,O ad.2 K y,db];constructor
   ·rintro(rfl|⟨h1,h2⟩)
    ·exact⟨.inl rfl,ad.1 x K⟩
    ·exact⟨.inr h1,h2⟩
   ·rintro⟨rfl|h1,h2⟩
    ·exact .inl rfl
    ·exact .inr ⟨h1,h2⟩
theorem JT{l:List Int}:x∈l.filter (λx=> !decide (x=k))↔x∈l/\x≠k:=hW
theorem hf.free{t:fw}{has:Nat->List Int}(h:hf t n has){i:Nat}(hi:i<n)(hk:k∈has i):
  hf (fE t i k).1 n (xn has i k (fE t i k).2)/\∀j,(fE t i k).2=some j->∃K:Nat,j=(K:Int)/\K<n/\K≠i/\(⟨k,j⟩:dI)∈t.waits:=by
 have hm:=(h.pY k i).2 ⟨i,rfl,hi,hk⟩;have MO:=aNV h.xz hm;have I:∀j,j<n->j≠i->k∉has j:=λj au T O=>T<|h.Tc au hi O hk
 have MW:∀(k') (j),(⟨k',j⟩)∈t.held.erase ⟨k,i⟩↔∃K:Nat,j=(K:Int)/\K<n/\k'∈kW has i ((has i).filter λx=> !decide (x=k)) K:=λk' j=>by
  rw[MO,h.pY];constructor
  ·rintro⟨⟨K,e,S,O⟩,T⟩;refine⟨K,e,S,?_⟩;by_cases U:K=i
   ·subst U;rw[me,JT];exact⟨O,T⟩
   ·rw[j8 _ U];exact O
  ·rintro⟨K,e,S,O⟩;by_cases U:K=i
   ·subst U;rw[me,JT]at O;exact⟨⟨K,e,S,O.1⟩,O.2⟩
   ·rw[j8 _ U]at O;exact⟨⟨K,e,S,O⟩,λaU=>I K S U (by have bf:k'=k:=aU;rw[<-bf];exact O)⟩
 have z:∀j,(kW has i ((has i).filter λx=> !decide (x=k)) j).Nodup:=λj=>by
  by_cases U:j=i
  ·subst U;rw[me];exact(h.uy j).filter _
  ·rw[j8 _ U];exact h.uy j
 unfold fE;rw[aC (oq hm)];cases aA:t.waits.find? λw=>decide (w.lock=k)with
 |none=>
  refine⟨⟨h.xz.sublist<|List.erase_sublist,MW,z,h.yi,λw hw=>?_⟩,λj e=>p2 e⟩
  obtain⟨K,e,S,h1,x,J,h2⟩:=h.sw w hw;have T:=λe=>List.find?_eq_none.1 aA w hw<|dr e;refine⟨K,e,S,?_,x,(MO x).2 ⟨J,by rw[h2];exact T⟩,h2⟩
  show w.lock∉kW has i _ K;by_cases U:K=i
  ·subst U;rw[me,JT];exact λh=>h1 h.1
  ·rw[j8 _ U];exact h1
 |some w=>
  have uI:=sD aA;have uH:=by simpa using List.find?_some aA
  obtain⟨K,e,S,h1,x,J,h2⟩:=h.sw w uI;have T:K≠i:=λU=>h1<|by rw[uH,U];exact hk
  have F1:w=⟨k,K⟩:=by rw[<-uH,<-e]
  have aPF:w.aZ.toNat=K:=by rw[e];rfl
  simp only[xn,aPF];have Jd:=I K S T;refine⟨⟨?_,λk' j=>?_,λj=>?_,h.yi.sublist<|List.erase_sublist,λv aF=>?_⟩,λj Ax=>?_⟩
  ·rw[List.pairwise_append];refine⟨h.xz.sublist<|List.erase_sublist,List.pairwise_singleton _ _,λa aG b aa=>?_⟩
   rw[dH]at aa;subst aa;rw[uH];exact((MO a).1 aG).2
  ·rw[fH,dH,MW];constructor
   ·rintro(⟨V,ax,Z,O⟩|ax)
    ·refine⟨V,ax,Z,?_⟩;by_cases U:V=K
     ·subst U;rw[j8 _ T]at O;rw[me];exact List.mem_append_left _ O
     ·rw[j8 _ U];exact O
    ·rw[F1]at ax;cases ax;exact⟨K,rfl,S,by rw[me];simp⟩
   ·rintro⟨V,ax,Z,O⟩;by_cases U:V=K
    ·subst U;rw[me,fH,dH]at O;rcases O with O|rfl
     ·exact .inl ⟨V,ax,Z,by rw[j8 _ T];exact O⟩
     ·exact .inr<|by rw[F1,ax]
    ·rw[j8 _ U]at O;exact .inl ⟨V,ax,Z,O⟩
  ·by_cases U:j=K
   ·subst U;rw[me,List.nodup_append];exact⟨h.uy j,hW,λa aG b aa e=>by rw[dH]at aa;subst aa;subst e;exact Jd aG⟩
   ·rw[j8 _ U];exact z j
  ·obtain⟨SA,SB⟩:=(ZD h.yi uI v).1 aF;obtain⟨V,ax,Z,g1,y,aJ,g2⟩:=h.sw v SA;have kk:V≠K:=λU=>SB<|by rw[ax,e,U]
   refine⟨V,ax,Z,?_,?_⟩
   ·rw[j8 _ kk];by_cases U:V=i
    ·subst U;rw[me,JT];exact λh=>g1 h.1
    ·rw[j8 _ U];exact g1
   ·by_cases U:v.lock=k
    ·exact⟨w,hW,by rw[uH,U]⟩
    ·exact⟨y,List.mem_append_left _<|(MO y).2 ⟨aJ,by rw[g2];exact U⟩,g2⟩
  ·simp only[Option.some.injEq]at Ax;subst Ax;exact⟨K,e,S,T,by rw[<-uH];exact uI⟩
def J0(has:Nat->List Int)(g:List dI):Nat->List Int:=g.foldl (λhas h=>kW has h.aZ.toNat<|has h.aZ.toNat++[h.lock]) has
theorem hf.Fk{i:Nat}(hi:i<n):∀(l:List dI) (s:fw×List dI) (has:Nat->List Int),hf s.1 n has->(l.Pairwise λa b=>a.lock≠b.lock)->(∀k,k∈has i↔(⟨k,i⟩:dI)∈l)->
  ∃g,(oF i l s).2=s.2++g/\hf (oF i l s).1 n (J0 (kW has i []) g)/\(∀h∈g,∃j:Nat,h.aZ=(j:Int)/\j<n/\j≠i/\h∈s.1.waits/\h.lock∈has i)/\∀w∈(oF i l s).1.waits,w∈s.1.waits:=by
 intro l;induction l with
 |nil=>
  intro s has h _ hk;have e:=List.eq_nil_iff_forall_not_mem.2 λk S=>by have:=(hk k).1 S;cases this
  refine⟨[],by simp[oF],?_,λh K=>(p2 K),λw hw=>hw⟩
  have:kW has i []=has:=funext λj=>by
   by_cases U:j=i
   ·subst U;rw[me,e]
   ·rw[j8 _ U]
  rw[this];exact h
 |cons x l z=>
  intro s has h ad hk;rw[List.pairwise_cons]at ad;by_cases J:x.aZ=i
  ·have Jv:=(hk x.lock).2<|by rw[<-J];exact List.mem_cons_self
   obtain⟨h1,h2⟩:=h.free hi Jv;have ax:xn has i x.lock (fE s.1 i x.lock).2 i=(has i).filter λy=> !decide (y=x.lock):=by
    cases O:(fE s.1 i x.lock).2 with
    |none=>exact me _ _ _
    |some j=>obtain⟨e4,e, -,T, -⟩:=h2 j O;show kW _ j.toNat _ i=_;rw[j8 _ (by rw[e];simpa using T.symm),me]
   have V:∀k,k∈xn has i x.lock (fE s.1 i x.lock).2 i->k∈has i:=λk S=>by rw[ax,JT]at S;exact S.1
   have Z:∀k,k∈xn has i x.lock (fE s.1 i x.lock).2 i↔(⟨k,i⟩)∈l:=λk=>j9;have I:∀w∈(fE s.1 i x.lock).1.waits,w∈s.1.waits:=λw hw=>by
    unfold fE at hw;split at hw
    ·split at hw
     ·exact hw
     ·exact List.mem_of_mem_erase hw
    ·exact hw
   unfold oF;rw[aC J];cases O:(fE s.1 i x.lock).2 with
   |none=>
    rw[O]at h1 Z V;simp only;obtain⟨g,g1,g2,g3,g4⟩:=z ((fE s.1 i x.lock).1,s.2) _ h1 ad.2 Z;refine⟨g,g1,?_,λh K=>?_,λw hw=>I w<|g4 w hw⟩
    ·have:kW (xn has i x.lock none) i []=kW has i []:=funext λj=>by
      by_cases U:j=i
      ·subst U;rw[me,me]
      ·rw[j8 _ U,j8 _ U];exact j8 _ U _
     rw[this]at g2;exact g2
    ·obtain⟨j,aL,aR,bC,cD,ej⟩:=g3 h K;exact⟨j,aL,aR,bC,I h cD,V _ ej⟩
   |some k=>
    rw[O]at h1 Z V;simp only;obtain⟨j,e,au,T,AV⟩:=h2 k O;obtain⟨g,g1,g2,g3,g4⟩:=z ((fE s.1 i x.lock).1,s.2++[⟨x.lock,k⟩]) _ h1 ad.2 Z;refine⟨⟨x.lock,k⟩::g,by rw[g1,c6];rfl,?_,λh K=>?_,λw hw=>I w<|g4 w hw⟩
    ·have:kW (xn has i x.lock<|some k) i []=kW (kW has i []) k.toNat (kW has i [] k.toNat++[x.lock]):=funext λq=>by
      have kl:k.toNat=j:=by rw[e];rfl
      simp only[xn,kl];by_cases U:q=i
      ·subst U;rw[me,j8 _ (by exact λe=>T e.symm),me]
      ·rw[j8 _ U];by_cases aU:q=j
       ·subst aU;rw[me,me,j8 _ U]
       ·rw[j8 _ aU,j8 _ aU,j8 _ U,j8 _ U]
     rw[this]at g2;exact g2
    ·rcases db.1 K with rfl|K
     ·exact⟨j,e,au,T,AV,Jv⟩
     ·obtain⟨q9,aL,aR,bC,cD,ej⟩:=g3 h K;exact⟨q9,aL,aR,bC,I h cD,V _ ej⟩
  ·unfold oF;rw[ar J];refine z s has h ad.2 λk=>?_;rw[hk,db];exact⟨λh=>h.resolve_left λe=>J (by rw[<-e]),.inr⟩
theorem hf.drop{t:fw}{has:Nat->List Int}(h:hf t n has){i:Nat}(hi:i<n):
  hf (kC t i).1 n (J0 (kW has i []) (kC t i).2)/\(∀h∈(kC t i).2,∃j:Nat,h.aZ=(j:Int)/\j<n/\j≠i/\h∈t.waits/\h.lock∈has i)/\∀w∈(kC t i).1.waits,w∈t.waits/\w.aZ≠i:=by
 obtain⟨g,g1,g2,g3,g4⟩:=hf.Fk hi t.held (⟨t.held,t.waits.filter λw=> !decide (w.aZ=i)⟩,[]) has (⟨h.xz,h.pY,h.uy,h.yi.sublist List.filter_sublist,λw hw=>h.sw w<|(mg.1 hw).1⟩) h.xz λk=>by rw[h.pY];exact⟨λhk=>⟨i,rfl,hi,hk⟩,fun⟨j,e,_,hk⟩=>(show i=j by omega)▸hk⟩
 have e:(kC t i).2=g:=g1;rw[e];refine⟨g2,λh J=>?_,λw hw=>?_⟩
 ·obtain⟨j,U,K,O,S,T⟩:=g3 h J;exact⟨j,U,K,O,(mg.1 S).1,T⟩
 ·have:=g4 w hw;simp at this;exact this
section
theorem Z6{body:Code}(h:cF P N body (H6 (λ_:Unit=>α) (λ_=>H) (λ_=>True) (λ_=>0) () Q) α H):cF P N (.loop body) Q α H:=
 ZN (ι:=Unit) (λ_=>α) (λ_=>H) (λ_=>True) (λ_=>0) () trivial (λ_=>.inr rfl) rfl λ_ _=>Bv h λe J H' h=>by
  cases e<;>first
   |exact h
   |(obtain⟨y,h1,h2,h3,h4⟩:=h;exact absurd h2<|Nat.lt_irrefl _)
open Go.Shelf
theorem rQ{B:Func}(h:P.funcs[f]?=some F)(af:(F.name== "runtime.NumGoroutine")=false:=by decide)(e:F={B with name:=F.name}:=by kernel_rfl):Bears P f B:=⟨F.name,af,h.trans<|b7 some e⟩
theorem IA{B:Func}(h:P.funcs[f]?=some F)(e:F=B:=by kernel_rfl):P.funcs[f]?=some B:=h.trans<|b7 some e
def aR9:Ren:=⟨fun|6=>188|14=>220|15=>221|20=>244|21=>245|22=>246|23=>247|24=>248|25=>249|26=>250|27=>251|28=>252|29=>253|46=>287|47=>288|48=>289|49=>290|50=>291|57=>326|n=>n,fun|0=>0|3=>3|4=>4|5=>5|9=>9|22=>45|24=>9|25=>292|39=>282|45=>410|46=>411|50=>134|53=>306|55=>418|66=>433|70=>224|76=>473|77=>474|n=>n,λn=>n⟩
theorem aRb:SlLaysF.n6 prog aR9 where
 mixed:=uW
 f6:=rQ func188
 f14:=rQ func220
 f15:=IA func221
 f20:=rQ func244
 f21:=rQ func245
 f22:=rQ func246
 f23:=rQ func247
 f24:=rQ func248
 f25:=rQ func249
 f26:=rQ func250
 f27:=rQ func251
 f28:=IA func252
 f29:=IA func253
 f46:=rQ func287
 f47:=IA func288
 f48:=IA func289
 f49:=rQ func290
 f50:=rQ func291
 f57:=rQ func326
 t0:=underlying0
 a0:=isAgg0
 z0:=sizeOf0
 v0:=zeroValue0
 t3:=underlying3
 a3:=isAgg3
 z3:=sizeOf3
 v3:=zeroValue3
 t4:=underlying4
 a4:=isAgg4
 z4:=sizeOf4
 v4:=zeroValue4
 t5:=underlying5
 a5:=isAgg5
 z5:=sizeOf5
 v5:=zeroValue5
 t9:=underlying9
 a9:=isAgg9
 z9:=sizeOf9
 v9:=zeroValue9
 t22:=underlying45
 a22:=isAgg45
 z22:=sizeOf45
 v22:=zeroValue45
 a24:=isAgg9
 z24:=sizeOf9
 t25:=underlying292
 a25:=isAgg292
 z25:=sizeOf292
 v25:=zeroValue292
 t39:=underlying282
 a39:=isAgg282
 z39:=sizeOf282
 v39:=zeroValue282
 t45:=underlying410
 a45:=isAgg410
 z45:=sizeOf410
 v45:=zeroValue410
 t46:=underlying411
 a46:=isAgg411
 z46:=sizeOf411
 v46:=zeroValue411
 t50:=underlying134
 a50:=isAgg134
 z50:=sizeOf134
 v50:=zeroValue134
 t53:=underlying306
 a53:=isAgg306
 z53:=sizeOf306
 v53:=zeroValue306
 t55:=underlying418
 a55:=isAgg418
 z55:=sizeOf418
 v55:=zeroValue418
 t66:=underlying433
 a66:=isAgg433
 z66:=sizeOf433
 v66:=zeroValue433
 t70:=underlying224
 a70:=isAgg224
 z70:=sizeOf224
 v70:=zeroValue224
 t76:=underlying473
 a76:=isAgg473
 z76:=sizeOf473
 v76:=zeroValue473
 t77:=underlying474
 a77:=isAgg474
 z77:=sizeOf474
 v77:=zeroValue474
theorem aRc(H:ab):aO prog 221 [.int .u64 0] H (.int .i64 0):=by
 have h:∀H,aO prog 253 [.int .u64 0] H (.int .i64 0):=λH=>by
  refine bg func253 ?_;have cX:kE (.string Lib.len8tab)=.str Lib.len8tab.data.toList:=aKK _<|by decide+kernel
  have J:Lib.len8tab.data.toList.length=256:=by decide+kernel
  have a7:Lib.len8tab.data.toList.getD 0 0=0:=by decide+kernel
  have hu:IntKind.u8.wrap 0=0:=rfl;repeat' first|(refine ae ?_;simp only[go_sem,cX,J,a7,hu])|refine bp ?_|(refine bz ?_ ?_<;>intro h<;>try exact bx h)|fail
  exact bJ<|.of rfl
 refine bg func221 ?_;repeat' first|(refine ae ?_;simp only[go_sem])|refine bp ?_|(refine bz ?_ ?_<;>intro h<;>try exact bx h)|fail
 exact bJ<|.of rfl
theorem aSs{cs:List I}(F:I)(H:ab)(U:az H bo=.cells v cs):aO prog 188 [.osl 1 bo v 0 0 lc,F] H (.aN []):=by
 have h1:∀H,aO prog 244 [.osl 1 bo v 0 0 lc,.int .i64 0,.int .i64 0,F] H (.aN []):=λH=>by
  refine bg func244 ?_;repeat' first|(refine ae ?_;simp only[go_sem])|refine bp ?_|(refine bz ?_ ?_<;>intro h<;>try exact bx h)|fail
  refine Z6 ?_;have J:decide (IntKind.i64.wrap (0+1)<0)=false:=ko;repeat' first|(refine ae ?_;simp only[go_sem,J])|refine bp ?_|(refine bz ?_ ?_<;>intro h<;>try exact bx h)|fail
  exact bJ<|.of rfl
 have h2:∀H,aO prog 220 [.osl 1 bo v 0 0 lc,.int .i64 0,.int .i64 0,.int .i64 0,F] H (.aN []):=λH=>by
  refine bg func220 ?_;repeat' first|(refine ae ?_;simp only[go_sem])|refine bp ?_|(refine bz ?_ ?_<;>intro h<;>try exact bx h)|fail
  refine Z6 ?_;have J:decide (IntKind.i64.wrap (0-0)<=12)=true:=ko;repeat' first|(refine ae ?_;simp only[go_sem,J])|refine bp ?_|(refine bz ?_ ?_<;>intro h<;>try exact bx h)|fail
  exact bJ<|.of rfl
 refine bg func188 ?_;have h3:=aRc;repeat' first|(refine ae ?_;simp only[go_sem,U])|refine bp ?_|(refine bz ?_ ?_<;>intro h<;>try exact bx h)|fail
 exact bJ<|.of rfl
theorem aRI{lt:kV->kV->Bool}{c:kV->kV->Int}{g:FuncId}(hw:Sort.SWO lt)(U:∀x y,decide (c x y<0)=lt x y)(K:∀(a b:kV) (H:ab),aO prog g [.str a.1,.str b.1] H (.int .i64<|c a b))(ok:jr prog g=true)
  {d:Array kV}  (af:n=d.size) (hl:n<=1073741824) (H:ab) (J:az H bo=.cells v (pQ d)):
  cV prog 188 [.osl 1 bo v 0 n lc,.func (.func g) [] []] H (λr H'=>∃d',Sort.PermIn 0 n d d'/\Sort.SortedIn lt 0 n d'/\r=.aN []/\H'=an H bo (.cells v<|pQ d')):=by
 by_cases h:n=0
 ·subst h;refine(aSs _ H J).mono ?_;rintro r H' ⟨rfl,rfl⟩;exact⟨d,⟨rfl,λ_ _=>rfl,.refl _⟩,λi j h1 h2 h3=>gf,rfl,(kf J trivial).symm⟩
 ·exact aMu hw U ok K aRb rfl af hl h H J
end
section
open Go.ChangeShapes Go.WideShapes Go.ChangeAt Go.RowKit
theorem aQ2:rh prog 56=true:=ma
theorem aNj{ys:List I}(h:jW prog 56 ys):∃o:cg,ys=(cy o).cells:=by obtain⟨z,J,rfl,h1,U⟩:=yN<|ZB underlying56 aQ2 h;obtain⟨ni,K,rfl,h2,O⟩:=yN U;obtain⟨pG,S,rfl,h3,a6⟩:=yN O;obtain⟨Ot,T,rfl,h4,bb⟩:=yN a6;obtain⟨Ou,V,rfl,Z,dm⟩:=yN bb;obtain rfl:=ZP dm;obtain⟨a,rfl,_⟩:=EJ underlying3 h1;obtain⟨s,rfl,_⟩:=Iv underlying9 h2;obtain⟨u,rfl,_⟩:=Iv underlying9 h3;obtain⟨v,rfl,_⟩:=Iv underlying9 h4;obtain⟨b,rfl,_⟩:=EJ underlying3 Z;exact⟨⟨a,s,u,v,b⟩,rfl⟩
end
end Go.Proofs.YtnmamncmpklliaaGreatDoor

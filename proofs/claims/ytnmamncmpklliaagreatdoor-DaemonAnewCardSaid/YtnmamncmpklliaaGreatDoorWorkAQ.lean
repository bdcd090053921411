/- What the functions of this seat answer (17 of 53). No condition. -/
import Derived.Test.YtnmamncmpklliaaGreatDoorWorkAO
import Derived.Test.YtnmamncmpklliaaGreatDoorWorkAP
set_option linter.unusedSimpArgs false
set_option linter.unusedVariables false
set_option linter.unusedSectionVars false
set_option maxRecDepth 100000
set_option maxHeartbeats 16000000
namespace Go.Proofs.YtnmamncmpklliaaGreatDoor
variable{x a b q r k:Int}{α:Type}{H:ab}{G:bz->Prop}{n j clock:Nat}{d:cn}{bk:List Int}{p:ag}{g:fC}{es ps:List (I×I×Nat)}{bM:List ag}
open Go.Proofs.Tryz
def P1(n:Int)(k:Nat):UInt8:=UInt8.ofNat (IntKind.u8.wrap<|n.fdiv (2 ^ min k 32)).toNat
def u9(n:Int):ag:=[P1 n 24,P1 n 16,P1 n 8,UInt8.ofNat (IntKind.u8.wrap n).toNat]
def su(n:Int):Int:=na .xor .u32 (IntKind.u32.wrap (n * 2 ^ min 1 32))<|if n.fdiv (2 ^ min 31 32)=0 then 0 else 79764919
def zO:Nat->Int->Int
 |0,n=>n
 |k+1,n=>zO k<|su n
def zS(n:Int)(c:UInt8):Int:=zO 8<|na .xor .u32 n (IntKind.u32.wrap (IntKind.u32.wrap c.toNat * 2 ^ min 24 32))
def tI(s:ag):Int:=s.foldl zS 4294967295
def o3(s:ag):ag:=s++u9 (tI s)
structure gA where
 at_:Int
 data:ag
deriving DecidableEq,Inhabited
structure ft where
 size:Int
 iU:ag
 loose:List gA
deriving DecidableEq,Inhabited
def eO(p:gA):I:=.agg [.int .i64 p.at_,.str p.data]
@[go_sem] theorem aWT(x:gA):b6 (eO x)=True:=by simp only[eO,go_sem]
def fW(f:Bool)(d:ft):I:=.agg [.int .i64 d.size,.str d.iU,.sl f<|d.loose.map eO]
def cw(n:Nat):ag:=List.replicate n 0
theorem rV(n:Nat):(cw n).length=n:=zl
theorem aDG(n:Nat):(List.replicate n (I.int .u8 0)).flatMap I.cells=ch (cw n):=by
 unfold cw ch;rw[List.map_replicate];induction n with
 |zero=>rfl
 |succ n J=>rw[zo,nj,J];rfl
theorem aD1(n:Nat):List.take (n * 1) (ch<|cw n)=ch (cw n):=iw<|by rw[q0,rV];omega
theorem aDH(n:Nat):(List.replicate n (I.agg [.int .u8 0,.int .u8 0,.int .u8 0,.int .u8 0,.int .u8 0,.int .u8 0,.int .u8 0,.int .u8 0,.int .u8 0,.int .u8 0,.int .u8 0,.int .u8 0,.int .u8 0,.int .u8 0,.int .u8 0,.int .u8 0])).flatMap I.cells=ch (cw<|n * 16):=by
 induction n with
 |zero=>rfl
 |succ n J=>
  rw[zo,nj,J,pg,Nat.add_comm];unfold cw;rw[<-List.replicate_append_replicate,zI];rfl
theorem TO(t u:ag)(off:Nat):dq (ch t) off (ch u)=ch (t.take off++(u++t.drop (off+u.length))):=by
 unfold dq ch;simp
attribute [go_sem] rV aDG aD1 aDH
def dg(s:ag):Nat:=(s.length+15) / 16
def wW(s:ag):ag:=s.take 16++cw (16-s.length)
def ha(s:ag):List ag:=(List.range (dg s)).map λi=>wW<|s.drop (i * 16)
def iD(t:ag)(off:Nat)(s:ag):ag:=t.take off++(s.take (t.length-off)++t.drop (off+s.length))
def pP(size:Int):ft:=⟨min (max size 0) 65536,cw<|(min (max size 0) 65536).toNat * 16,[]⟩
def tm(n:Int)(p:gA):Bool:=decide (0<=p.at_)&&(decide (p.at_<n)&&decide (p.data.length=16))
def n0(d:ft):Bool:=decide (0<=d.size)&&(decide (d.size<=65536)&&(decide ((d.iU.length:Int)=d.size * 16)&&d.loose.all (tm d.size)))
def jr(d:ft)(a n:Nat):ag:=d.loose.foldl (fun(t:ag) (p:gA)=>if(a:Int)<=p.at_/\p.at_<a+n then iD t ((p.at_.toNat-a) * 16) p.data else t)<|(d.iU.drop (a * 16)).take (n * 16)
def k5(at_:Nat)(l:List ag):List gA:=(List.range l.length).map λi=>⟨(at_+i:Nat),l.getD i []⟩
def oZ(d:ft)(at_:Int)(s:ag):ft×Int:=
 if at_<0 then(d,121)else if d.size-dg s<at_ then(d,120)else({d with loose:=d.loose++k5 at_.toNat (ha s)},0)
def lM(d:ft):ft:=⟨d.size,jr d 0 d.size.toNat,[]⟩
def AS(pick:Nat)(t:ag)(p:gA):ag:=
 if pick=1 then iD (iD t (p.at_.toNat * 16+8)<|p.data.drop 8) (p.at_.toNat * 16) (p.data.take 8)else if pick=2 then iD t (p.at_.toNat * 16) (p.data.take 8)else t
def Bb(cz:ag)(i:Nat):Nat:=(cz.getD i 0).toNat % 3
def sb(cz:ag):Nat->List gA->ag->ag
 |_,[],t=>t
 |i,p::l,t=>sb cz (i+1) l<|AS (Bb cz i) t p
def pk(d:ft)(cz:ag):ft:=⟨d.size,sb cz 0 d.loose d.iU,[]⟩
def pK(n:Nat):UInt8:=UInt8.ofNat<|n % 250+1
def xy:Nat->ag->List ag
 |0,_=>[]
 |k+1,b=>if b=[]then[]else b.take 14::xy k (b.drop 14)
def lY(b:ag):List ag:=xy b.length b
def jd(m:UInt8)(p:ag):ag:=m::(p++(cw (14-p.length)++[m]))
def l1(n:Nat)(p:ag):ag:=gF<|o3 (ct n++gF p)
def hg(n:Nat)(p:ag):ag:=(lY (l1 n p)).flatMap<|jd (pK n)
def gG(n:Int)(p:ag):ag×Int:=if n<1\/1000000<n\/40000<p.length then([],130)else(hg n.toNat p,0)
structure bO where
 bw:ft
 seq:Int
 base:Int
 next:Int
 end_:Int
 eo:Int
 kept:Int
 waits:List ag
 iy:Bool
 marked:Int
 fg:Int
 kQ:Int
deriving DecidableEq,Inhabited
def dN(f g:Bool)(w:bO):I:=.agg [.int .i64 w.bw.size,.str w.bw.iU,.sl f<|w.bw.loose.map eO,.int .i64 w.seq,.int .i64 w.base,.int .i64 w.next,.int .i64 w.end_,.int .i64 w.eo,.int .i64 w.kept,.sl g<|w.waits.map I.str,.bool w.iy,.int .i64 w.marked,.int .i64 w.fg,.int .i64 w.kQ]
def sQ:bO:=⟨⟨0,[],[]⟩,0,0,0,0,0,0,[],false,0,0,0⟩
def bj(size:Nat):Nat:=size / 4
def dT(size seq:Nat):Nat:=if seq % 2=0 then 0 else bj size
def hf(base:Nat)(state:ag):ag:=ct base++gF state
theorem Wa{P:Program}{N id J:Nat}{x y:Code}{Q:cX}{α:a7}{ι:Type}(F:ι->a7)(U:ι->ab)(pre:ι->Prop)(h1:cI P N x (rm id<|yk F U pre (rm J (wP P N y Q))) α H)(h2:∀i,pre i->cI P N y Q (F i) (U i)):cI P N x (rm id<|rm J (wP P N y Q)) α H:=by
 refine GH h1 λe K H' h=>?_
 have key:yk F U pre (rm J<|wP P N y Q) .normal K H'->cI P N y Q K H':=fun⟨i,ad,hs,hH⟩=>by subst hH;exact NO (h2 i ad)<|s4 hs
 cases e with
 |normal=>exact key h
 |exit j=>
  simp only[rm]at h ⊢;cases O:j==id with
  |true=>rw[O]at h;exact key h
  |false=>rw[O]at h;exact h
 |_=>exact h
theorem aIi(n:Nat)(af:n<=9223372036854775807)(H:ab):aM prog 92 [.int .i64 n] H (.int .i64<|gX n):=by
 refine aZ func92 ?_;have aw:decide ((n:Int)<0)=false:=cQ;refine hH ?_;refine cE (ι:=Nat×Nat) (λs=>[(0,.int .i64 s.1),(2,.int .i64 0),(3,.int .i64 s.2)]) (λ_=>H) (λs=>s.1<=9223372036854775807/\s.2<=100/\gX n+1=s.2+gX s.1) (λs=>s.1) (n,1) ⟨af,kk,by simp only;omega⟩ ?_ rfl ?_
 ·simp[go_sem]
 rintro⟨m,k⟩ ⟨hm,hk,hs⟩;simp only at hm hk hs ⊢;have U:(m:Int).fdiv (2 ^ min 7 64)=((m / 128:Nat):Int):=by have:=Wn (n:=m) (j:=1) iV;rw[Nat.pow_one]at this;exact this
 by_cases h:m<=127
 ·have h1:decide ((127:Int)<(m:Int))=false:=cQ;rw[ND m,aA h]at hs;refine hH ?_;exact bD<|.of (by rw[show gX n=k by omega])
 ·have h1:decide ((127:Int)<(m:Int))=true:=cK;rw[ND m,aj h]at hs;have ad:=UZ<|m / 128;have J:=I4 n af;have hw:IntKind.i64.wrap ((k:Int)+1)=((k+1:Nat):Int):=by rw[bI];omega
  repeat' first|(refine ae ?_;simp only[go_sem,h1,hw])|refine ao ?_|fail
  exact⟨(m / 128,k+1),⟨by simp only;omega,by simp only;omega,by simp only;omega⟩,by simp only;omega,bU _ U,rfl⟩
theorem XS(b:ag)(l:List Nat)(f:Bool)(hl:∀n∈l,n<=9223372036854775807)(aa:b.length+9 * l.length<=140737488355328)(H:ab):
  aM prog 49 [.str b,.sl f<|l.map fun(n:Nat)=>I.int .i64 n] H (.aQ [.str (b++l.flatMap ct),.int .i64 0]):=by
 refine aZ func49 ?_;refine aW ?_;obtain⟨L,T⟩:∃L,L=l.map fun(n:Nat)=>I.int .i64 n:=⟨_,rfl⟩
 have V:L.length=l.length:=by rw[T,cv]
 obtain⟨D,J⟩:∃D:Nat->ag,∀j,D j=(l.take j).flatMap ct:=⟨_,λ_=>rfl⟩
 have uf:∀j,j<=l.length->(D j).length<=9 * j:=by
  intro j;induction j with
  |zero=>intro _;rw[J];simp
  |succ j aB=>
   intro Z;have h1:l.take (j+1)=l.take j++[l[j]]:=by rw[Gi,da Z];rfl
   have h2:=aB iV
   rw[J]at h2 ⊢;rw[h1,tE,bF];have h3:=I4 l[j] (hl _ (ga _));unfold gX at h3;simp only[nj,J5,cA];omega
 refine qD (ι:=Unit) (λ_=>[(4,.str []),(5,.int .i64 0),(6,.osl 1 H.length ((D l.length).length+1) 0 (b.length+(D l.length).length)<|b.length+(D l.length).length)]) (λ_=>H++[.cells ((D l.length).length+1) (ch<|b++D l.length)]) (λ_=>True) ?_ λ_ _=>?_
 ·refine cE (ι:=Nat) (λj=>[(0,.str b),(1,.sl f L),(4,.str []),(5,.int .i64 0),(6,.osl 1 H.length ((D j).length+1) 0 (b.length+(D j).length)<|b.length+(D j).length),(14,.sl f L),(15,.int .i64 l.length),(16,.int .i64 j)])
   (λj=>H++[.cells ((D j).length+1) (ch<|b++D j)]) (λj=>j<=l.length) (λj=>l.length-j) 0 (bW _) ?_ ?_ ?_
  ·have:D 0=[]:=by rw[J];rfl
   simp[go_sem,this,T]
  ·have:D 0=[]:=by rw[J];rfl
   simp[this,ch]
  intro j Z;by_cases xe:j<l.length
  ·have af:=hl l[j] (ga _);obtain⟨n,z⟩:∃n,n=l[j]:=⟨_,rfl⟩;rw[<-z]at af;have bg:decide ((j:Int)<(l.length:Int))=true:=cK;have aL:L.getD j .top=.int .i64 (n:Int):=by rw[T,et,mF,da xe,z];rfl
   have oX:decide ((n:Int)<0)=false:=cQ;have hs:=aIi n af;have iC:(j<L.length)=True:=b5 iV
   repeat' first|(refine ae ?_;simp only[go_sem,bg,aL,oX,iC,V])|refine ao ?_|fail
   have aXr:=uf j Z;have jF:=I4 n af;have dZ:=UZ n;obtain⟨E,U⟩:∃E:Nat->ag,∀i,E i=D j++(ct n).take i:=⟨_,λ_=>rfl⟩
   have EK:∀i,(E i).length<=9 * j+i:=λi=>by rw[U,bF,eK];omega
   have ZY:E 0=D j:=by rw[U];simp
   have ZZ:E (gX n)=D (j+1):=by
    rw[U,J,J,show gX n=(ct n).length from rfl,eG,Gi,da xe,<-z]
    simp
   have aXV:IntKind.i64.wrap ((j:Int)+1)=((j+1:Nat):Int):=by rw[bI];omega
   refine Wa (ι:=Unit) (λ_=>[(0,.str b),(1,.sl f L),(4,.str []),(5,.int .i64 0),(6,.osl 1 H.length ((D (j+1)).length+1) 0 (b.length+(D (j+1)).length)<|b.length+(D (j+1)).length),(14,.sl f L),(15,.int .i64 l.length),(16,.int .i64 j)]) (λ_=>H++[.cells ((D (j+1)).length+1) (ch<|b++D (j+1))]) (λ_=>True) ?_ λ_ _=>?_
   ·refine cE (ι:=Nat) (λi=>[(0,.str b),(1,.sl f L),(4,.str []),(5,.int .i64 0),(6,.osl 1 H.length ((E i).length+1) 0 (b.length+(E i).length)<|b.length+(E i).length),(8,.int .i64 n),(9,.int .i64<|gX n),(14,.sl f L),(15,.int .i64 l.length),(16,.int .i64 j),(24,.int .i64<|gX n),(25,.int .i64 i)])
     (λi=>H++[.cells ((E i).length+1) (ch<|b++E i)]) (λi=>i<=gX n) (λi=>gX n-i) 0 (bW _) ?_ ?_ ?_
    ·rw[ZY];simp[go_sem]
    ·rw[ZY]
    intro i hi;have aXs:=EK i;by_cases bL:i<gX n
    ·have c8:decide ((i:Int)<(gX n:Int))=true:=cK;have O:IntKind.i64.wrap ((i:Int)+1)=((i+1:Nat):Int):=by rw[bI];omega
     have fH:IntKind.i64.wrap ((gX n:Int)-1)=((gX n-1:Nat):Int):=by rw[bI];omega
     obtain⟨K,bP⟩:∃K,K=gX n-1-i:=⟨_,rfl⟩;have dI:IntKind.i64.wrap (((gX n-1:Nat):Int)-(i:Int))=(K:Int):=by rw[bI];omega
     have xn:IntKind.i64.wrap (7 * (K:Int))=7 * (K:Int):=bI;have xl:=Wn (n:=n) (j:=K) iV
     have aOt:n / 128 ^ K<=9223372036854775807:=fr (Nat.div_le_self _ _) af;have yF:=aDo aOt;obtain⟨d,hd⟩:∃d,d=n / 128 ^ K % 128:=⟨_,rfl⟩;rw[<-hd]at yF;have jl:d<128:=iV
     have Ik:=aDZ jl;have Z0:E (i+1)=E i++[zN n i]:=by rw[U,U,aER n i bL,dr]
     by_cases h2:i<gX n-1
     ·have l4:decide ((i:Int)<((gX n-1:Nat):Int))=true:=cK;have CD:IntKind.u8.wrap ((d+128:Nat):Int)=((zN n i).toNat:Int):=by
       unfold zN;rw[<-bP,<-hd,aA h2,DT iV];simp[IntKind.wrap,IntKind.signed,IntKind.bits];omega
      repeat' first|(refine ae ?_;simp only[go_sem,c8,O,fH,dI,xn,xl,yF,Ik,l4,CD])|refine ao ?_|fail
      refine⟨⟨iV,(by rintro e rfl;rfl),iV⟩,?_⟩
      repeat' first|(refine ae ?_;simp only[go_sem,O])|refine ao ?_|fail
      refine⟨i+1,iV,iV,?_⟩
      rw[Z0,<-dr,Wo];simp[tC]
     ·have l4:decide ((i:Int)<((gX n-1:Nat):Int))=false:=cQ;have CD:IntKind.u8.wrap ((d:Nat):Int)=((zN n i).toNat:Int):=by
       unfold zN;rw[<-bP,<-hd,aj h2,DT iV];simp[IntKind.wrap,IntKind.signed,IntKind.bits];omega
      repeat' first|(refine ae ?_;simp only[go_sem,c8,O,fH,dI,xn,xl,yF,l4,CD])|refine ao ?_|fail
      refine⟨⟨iV,(by rintro e rfl;rfl),iV⟩,?_⟩
      repeat' first|(refine ae ?_;simp only[go_sem,O])|refine ao ?_|fail
      refine⟨i+1,iV,iV,?_⟩
      rw[Z0,<-dr,Wo];simp[tC]
    ·have eV:i=gX n:=iV
     subst eV;repeat' first|(refine ae ?_;simp only[go_sem,bL])|refine ao ?_|fail
     exact⟨(),by rw[ZZ],by rw[ZZ]⟩
   ·refine hH ?_;exact⟨j+1,iV,iV,kk⟩
  ·have q8:j=l.length:=iV
   subst q8;refine hH ?_;exact⟨(),trivial⟩
 ·have aNO:D l.length=l.flatMap ct:=by rw[J,eG]
  have aT:List.take ((b.length+(D l.length).length) * 1) (ch<|b++D l.length)=ch (b++D l.length):=iw<|by rw[q0,bF];omega
  repeat' first|(refine ae ?_;simp only[go_sem,aT])|refine ao ?_|fail
  rw[aNO];exact aV<|.refl _
theorem Kp(b:ag)(n:Nat)(f:Bool)(af:n<=9223372036854775807)(J:b.length+9<=140737488355328)(H:ab):
  aM prog 49 [.str b,.sl f [.int .i64 n]] H (.aQ [.str (b++ct n),.int .i64 0]):=by
 simpa using XS b [n] f (by simpa using af) (by simpa using J) H
theorem GJ(b t:ag)(J:b.length+9<=140737488355328)(ah:t.length<=9223372036854775807)(hl:b.length+9+t.length<=9223372036854775807)(H:ab):
  aM prog 24 [.str b,.str t] H (.str<|b++gF t):=by
 refine aZ func24 ?_;have ad:=Kp b t.length true ah J;have hs:=I4 t.length ah;unfold gX at hs;repeat' first|(refine ae ?_;simp only[go_sem])|refine ao ?_|fail
 exact bD<|.of rfl
structure dx where
 lock:Int
 aU:Int
deriving DecidableEq,Inhabited
structure mK where
 aU:Int
 upto:Int
deriving DecidableEq,Inhabited
structure fl where
 held:List dx
 waits:List dx
deriving DecidableEq,Inhabited
structure nU where
 kept:Int
 waits:List mK
deriving DecidableEq,Inhabited
structure bK where
 m:c0
 t:fl
 g:nU
 aC:List bz
 time:Int
 ops:List aX
deriving DecidableEq,Inhabited
def bx(h:dx):I:=.agg [.int .i64 h.lock,.int .i64 h.aU]
def dy(w:mK):I:=.agg [.int .i64 w.aU,.int .i64 w.upto]
def fB(f1 f2:Bool)(t:fl):I:=.agg [.sl f1 (t.held.map bx),.sl f2<|t.waits.map bx]
def kK(f:Bool)(g:nU):I:=.agg [.int .i64 g.kept,.sl f<|g.waits.map dy]
def aU(t:bz):I:=.agg [.int .i64 t.call.kind,.str t.call.path,.str t.call.to,.str t.call.data,.int .i64 t.call.n,.sl false<|t.has.map bq,.int .i64 t.at_,.bool t.done,.bool t.ended,.int .i64 t.upto,.int .i64 t.mm,.int .i64 t.mark,.int .i64 t.end_,
 .int .i64 t.ec.err,.str t.ec.data,.sl false<|t.ec.names.map I.str,.int .i64 t.ec.n,.sl false<|t.ec.events.map c9]
theorem aKn(t:bz):aU t=hy false false false t:=rfl
def kC(e n s w h q g t o:I)(x:bK):I:=.agg [e,n,.int .i64 x.m.seen,.int .i64 x.m.rep,s,w,.int .i64 x.m.next,h,q,.int .i64 x.g.kept,g,t,.int .i64 x.time,o]
def hx(f1 f2 f3 f4 f5 f6 f7 f8 f9:Bool)(x:bK):I:=kC (.sl f1<|x.m.log.entries.map dv) (.sl f2<|x.m.log.nodes.map ba) (.sl f3<|x.m.cN.map gL) (.sl f4<|x.m.cd.map dn) (.sl f5<|x.t.held.map bx) (.sl f6<|x.t.waits.map bx) (.sl f7<|x.g.waits.map dy) (.sl f8<|x.aC.map aU) (.sl f9<|x.ops.map bh) x
@[go_sem] theorem aWU(x:dx):b6 (bx x)=True:=by simp only[bx,go_sem]
@[go_sem] theorem aWV(x:mK):b6 (dy x)=True:=by simp only[dy,go_sem]
@[go_sem] theorem aWW(x:bz):b6 (aU x)=True:=by simp only[aU,go_sem]
def FY:fl:=⟨[],[]⟩
def ZS:nU:=⟨0,[]⟩
def qZ:bK:=⟨mz,FY,ZS,[],0,[]⟩
def w0(l:List dx)(k:Int):Option Int:=(l.find? λh=>decide<|h.lock=k).map (·.aU)
def vc(l:List dx)(n:Int):Option Int:=(l.find? λh=>decide<|h.aU=n).map (·.lock)
def yl(t:fl)(n k:Int):fl×Bool:=match w0 t.held k with
 |none=>({t with held:=t.held++[⟨k,n⟩]},true)
 |some h=>if h=n then(t,true)else if t.waits.contains ⟨k,n⟩=true then(t,false)else({t with waits:=t.waits++[⟨k,n⟩]},false)
def fy(t:fl)(n k:Int):fl×Option Int:=
 if t.held.contains ⟨k,n⟩=true then(match t.waits.find? λw=>decide (w.lock=k)with
  |none=>({t with held:=t.held.erase ⟨k,n⟩},none)
  |some w=>(⟨t.held.erase ⟨k,n⟩++[w],t.waits.erase w⟩,some w.aU))
 else(t,none)
def oP(n:Int):List dx->fl×List dx->fl×List dx
 |[],s=>s
 |h::l,s=>if h.aU=n then(match(fy s.1 n h.lock).2 with
  |none=>oP n l ((fy s.1 n h.lock).1,s.2)
  |some k=>oP n l ((fy s.1 n h.lock).1,s.2++[⟨h.lock,k⟩]))else oP n l s
def kH(t:fl)(n:Int):fl×List dx:=oP n t.held (⟨t.held,t.waits.filter λw=> !decide (w.aU=n)⟩,[])
def iE(g:nU)(n:Int):Bool:=g.waits.any λw=>decide<|w.aU=n
def KE(n up:Int):List mK->List mK
 |[]=>[]
 |w::l=>if w.aU=n then⟨w.aU,max w.upto up⟩::l else w::KE n up l
def wx(g:nU)(n up:Int):nU×Bool:=
 if up<=g.kept then(g,true)else if iE g n=true then({g with waits:=KE n up g.waits},false)else({g with waits:=g.waits++[⟨n,up⟩]},false)
def zD(g:nU):Option Int:=g.waits.head?.map (·.aU)
def zV(g:nU)(k:Int):nU×List Int:=(⟨max g.kept k,g.waits.filter λw=> !decide (w.upto<=max g.kept k)⟩,(g.waits.filter λw=>decide<|w.upto<=max g.kept k).map (·.aU))
def k7(r:Int):bK×Int:=if(j2 r).2=0 then({qZ with m:=(j2 r).1},0)else(qZ,(j2 r).2)
def pv(x:bK)(c:b8):bK×Int×Int:=
 if(40:Int)<=(x.aC.length:Int)then(x,0,193)else({x with time:=IntKind.i64.wrap<|x.time+1,aC:=x.aC++[{pb c with mm:=IntKind.i64.wrap (x.time+1)}]},x.aC.length,0)
def sj(x:bK)(p:bz×Nat):Bool:= !p.1.ended&& !(vc x.t.waits p.2).isSome&&(!iE x.g p.2||decide (zD x.g=some (p.2:Int)))
def jV(x:bK):List Nat:=(x.aC.zipIdx.filter (sj x)).map (·.2)
def uQ(x:bK)(p:Int):Option Nat:=if jV x=[]then none else some ((jV x).getD (p % ((jV x).length:Int)).toNat 0)
def hv(l:List bz)(i:Int)(f:bz->bz):List bz:=if 0<=i/\i<l.length then l.set i.toNat (f<|l.getD i.toNat (pb oO))else l
def mf(l:List bz)(h:dx):List bz:=hv l h.aU λt=>dt t ⟨1,h.lock⟩
def my(time:Int)(l:List bz)(n:Int):List bz:=hv l n λt=>{t with ended:=true,end_:=time}
def mw(full:Bool)(who:Nat)(x:bK):bK:=
 if full=true then{x with g:={x.g with waits:=x.g.waits.filter λw=> !decide (w.aU=who)},aC:=my x.time (hv x.aC who λt=>{t with ec:={du with err:=120}}) who}
 else{x with g:=(zV x.g x.ops.length).1,aC:=(zV x.g x.ops.length).2.foldl (my x.time) x.aC}
def xW(who:Nat)(k:Int)(x:bK):bK:=
 if(yl x.t who k).2=true then{x with t:=(yl x.t who k).1,aC:=hv x.aC who λt=>dt t ⟨1,k⟩}else{x with t:=(yl x.t who k).1}
def xX(who:Nat)(k:Int)(x:bK):bK:=match(fy x.t who k).2 with
 |none=>{x with t:=(fy x.t who k).1,aC:=hv x.aC who λt=>dt t ⟨2,k⟩}
 |some n=>{x with t:=(fy x.t who k).1,aC:=mf (hv x.aC who λt=>dt t ⟨2,k⟩) ⟨k,n⟩}
def BM(who n:Nat)(t:bz):Bool:= !decide (n=who)&&hA t.call&& !t.done
def lR(who:Nat)(s:fl×List bz)(n:Nat):fl×List bz:=
 if BM who n (s.2.getD n<|pb oO)=true then((kH s.1 n).1,(kH s.1 n).2.foldl mf<|hv s.2 n pR)else s
def zT(who:Nat)(x:bK):bK:={x with t:=((List.range x.aC.length).foldl (lR who) (x.t,x.aC)).1,aC:=((List.range x.aC.length).foldl (lR who) (x.t,x.aC)).2}
def Ew(x:bK)(r:c0×nn×List aX)(t:bz):bz:=dt {t with ec:=r.2.1,mark:=x.time,upto:=((x.ops++r.2.2).length:Int)} ⟨3,0⟩
def j1(who:Nat)(x:bK)(r:c0×nn×List aX):bK:={x with m:=r.1,ops:=x.ops++r.2.2,aC:=hv x.aC who (Ew x r)}
def yt(who:Nat)(c:b8)(x:bK):bK:=
 if c.kind=13/\(er x.m c).2.1.err=0 then zT who (j1 who x<|er x.m c)else j1 who x (er x.m c)
def wY(who:Nat)(t:bz)(x:bK):bK:=
 if(wx x.g who t.upto).2=true then{x with g:=(wx x.g who t.upto).1,aC:=my x.time x.aC who}else{x with g:=(wx x.g who t.upto).1}
def zJ(who:Nat)(x:bK):bK:={x with aC:=hv x.aC who λt=>{dt t ⟨5,0⟩with end_:=x.time}}
def nJ(who:Nat)(t:bz)(u:eZ)(x:bK):bK:=
 if u.kind=1 then xW who u.lock x else if u.kind=2 then xX who u.lock x else if u.kind=3 then yt who t.call x else if u.kind=4 then wY who t x else if u.kind=5 then zJ who x else x
def wk(x:bK):bK:={x with time:=IntKind.i64.wrap (x.time+1)}
def ue(full:Bool)(who:Nat)(x:bK):bK:=
 if iE x.g who=true then mw full who (wk x)else nJ who (x.aC.getD who<|pb oO) (ev x.m.log.nodes<|x.aC.getD who (pb oO)) (wk x)
def ig(x:bK)(p:Int)(full:Bool):bK:=match uQ x p with
 |none=>x
 |some who=>ue full who x
inductive RunT (G:bz->Prop) (l:List aE):bz->Nat->Nat->bz->Prop
 |nil (t:bz):RunT G l t 0 0 t
 |cons {t t':bz} {n d:Nat} (h:G t) (r:RunT G l (dt t<|ev l t) n d t'):RunT G l t (n+1) ((if(ev l t).kind=3 then 1 else 0)+d) t'
theorem RunT.trans{l:List aE}{a b c:bz}{d m e:Nat}(h:RunT G l a n d b)(k:RunT G l b m e c):RunT G l a (n+m) (d+e) c:=by
 induction h with
 |nil t=>simpa using k
 | @cons t t' n d h r J=>have:=RunT.cons h<|J k;rw[<-tC]at this;rw[show n+1+m=n+m+1 by omega];exact this
theorem RunT.mono{K:bz->Prop}(J:∀t,G t->K t){l:List aE}{a b:bz}{d:Nat}(h:RunT G l a n d b):RunT K l a n d b:=by
 induction h with
 |nil t=>exact .nil t
 |cons h r U=>exact .cons (J _ h) U
def kA(c:b8)(k:Int)(h:List Int)(d e:Bool):bz:={pb c with at_:=k,has:=h,done:=d,ended:=e}
theorem aG7{l:List aE}(K:mg l){dir:Int}{s:ag}{n:aE}(hd:dm dir=true)(h:fx l dir s=some n):n.id≠dir/\zB l n.id=some n:=by
 obtain⟨J,hm,ad⟩:=FC h;have U:=KW J hm;refine⟨λe=>?_,by rw[zB,aA J];exact U⟩
 obtain⟨r,O⟩:=K.wf;have T:par l n.id=some dir:=by
  rw[par,U];simp only[ad];rw[aj (PI hd)]
 have:=O _ _ T;rw[e]at this;omega
theorem Xr{has:List Int}(ps)(rest)(h:∀y∈ps,y∈has):nP has (ps++rest)=nP has rest:=by
 induction ps with
 |nil=>rfl
 |cons p ps J=>rw[iN,Uv kr];exact J λy U=>h y kr
theorem Uo{c:b8}(h:fQ c=true):hA c=false:=by
 unfold fQ at h;simp at h;unfold hA;rcases h with(h|h)|h<;>rw[h]<;>rfl
theorem aD2{o:Option Int}(h:bk.Nodup):(jJ bk o).Nodup:=by
 unfold jJ;split
 ·split
  ·exact h
  ·rename_i d hd;rw[List.nodup_append];refine⟨h,kk,λa U b J=>?_⟩
   simp at J hd;subst J;exact λe=>hd<|e▸U
 ·exact h
theorem aG8{o:Option Int}(h:x∈jJ bk o):x∈bk\/o=some x:=by
 unfold jJ at h;split at h
 ·split at h
  ·exact .inl h
  ·simp at h;rcases h with h|h
   ·exact .inl h
   ·exact .inr<|by rw[h]
 ·exact .inl h
theorem aET{l:List aE}{d:Int}(h:gp l p=some d):dm d=true:=by
 unfold gp at h;split at h
 ·split at h
  ·rename_i q;cases h;exact q.2
  ·cases h
 ·cases h
theorem aEU(l)(c):(ze l c).Nodup/\∀x∈ze l c,∃p∈nu c,gp l p=some x:=by
 suffices h:∀(ps:List ag) (bk),bk.Nodup->(∀x∈bk,∃p∈nu c,gp l p=some x)->(∀p∈ps,p∈nu c)->(ps.foldl (λbk p=>jJ bk<|gp l p) bk).Nodup/\∀x∈ps.foldl (λbk p=>jJ bk<|gp l p) bk,∃p∈nu c,gp l p=some x from
  h (nu c) [] List.nodup_nil (λx J=>kr) (λp ad=>ad)
 intro ps;induction ps with
 |nil=>intro bk h1 h2 _;exact⟨h1,h2⟩
 |cons p ps U=>
  intro bk h1 h2 h3;refine U _ (aD2 h1) (λx J=>?_) λq aJ=>h3 q kr
  rcases aG8 J with J|J
  ·exact h2 x J
  ·exact⟨p,h3 p kk,J⟩
theorem SQ(l)(bk):(n3 l bk).Perm bk:=by
 unfold n3;split
 ·split
  ·exact .swap _ _ _
  ·exact .refl _
 ·exact .refl _
theorem OP(l)(c):(iq l c).Nodup:=by
 obtain⟨h1,h2⟩:=aEU l c;rw[iq,u1];refine⟨λh=>?_,(SQ l _).nodup_iff.2 h1⟩
 obtain⟨p,_,ad⟩:=h2 1<|(SQ l _).mem_iff.1 h;have:=aET ad;revert this;decide
theorem aD3{s:ag}{n:aE}(af:n.name=s){m:List (ag×aE)}(h:∀p∈m,p.2.name=p.1):∀p∈hU s n m,p.2.name=p.1:=by
 induction m<;>grind [hU,dF]
theorem aEV(s:ag)(n:aE)(m:List (ag×aE)):((hU s n m).map (·.1))=if s∈m.map (·.1)then m.map (·.1)else m.map (·.1)++[s]:=by
 induction m<;>grind [hU]
theorem aD4{s:ag}{n:aE}{m:List (ag×aE)}(h:(m.map (·.1)).Nodup):((hU s n m).map (·.1)).Nodup:=by
 rw[aEV];grind
theorem aG9{m:List (ag×aE)}(n:aE)(h:(m.map (·.1)).Nodup/\∀p∈m,p.2.name=p.1):((rQ m n).map (·.1)).Nodup/\∀p∈rQ m n,p.2.name=p.1:=by
 have hs:((hU n.name n m).map (·.1)).Nodup/\∀p∈hU n.name n m,p.2.name=p.1:=⟨aD4 h.1,aD3 rfl h.2⟩;unfold rQ;grind
theorem A9(l:List aE)(dir:Int):((fz l dir).map (·.1)).Nodup/\∀p∈fz l dir,p.2.name=p.1:=by
 suffices h:∀(k:List aE) (m:List (ag×aE)),((m.map (·.1)).Nodup/\∀p∈m,p.2.name=p.1)->((k.foldl (mi dir) m).map (·.1)).Nodup/\∀p∈k.foldl (mi dir) m,p.2.name=p.1 from
  h l [] ⟨List.nodup_nil,λp ad=>by cases ad⟩
 intro k;induction k with
 |nil=>exact λm h=>h
 |cons x k J=>
  intro m h;refine J _ ?_;unfold mi;split
  ·exact aG9 x h
  ·exact h
theorem aHa{s:ag}{n:aE}{m:List (ag×aE)}(af:(m.map (·.1)).Nodup)(h:(s,n)∈m):ht s m=some n:=by
 induction m<;>grind [dz,u1,ht]
theorem Wb{s:ag}{n:aE}{m:List (ag×aE)}(h:ht s m=some n):(s,n)∈m:=by
 induction m<;>grind [ht]
theorem aD5{m:List (ag×aE)}(af:(m.map (·.1)).Nodup)(p:ag×aE->Bool):((m.filter p).map (·.1)).Nodup:=
 List.Nodup.sublist (List.Sublist.map _ List.filter_sublist) af
def dep(l:List aE)(x:Int):Nat:=(gZ l x).length
theorem J7{l:List aE}(h:ln l){p:Int}(ad:par l x=some p):gZ l x=p::gZ l p:=by
 rw[<-F0 h (oA _) x,qT,ad];rfl
theorem yi{l:List aE}(h:ln l){p:Int}(ad:par l x=some p):dep l x=dep l p+1:=by
 rw[dep,J7 h ad];rfl
theorem BO{l:List aE}(h:ln l)(x:Int):dep l x<=l.length:=P7 h _ _
theorem Pz{l:List aE}(h:ln l):∀(j:Nat) {q w:Int},dep l q=j->w∈gZ l q->dep l w<dep l q:=by
 intro j;induction j with
 |zero=>grind [dep,iO]
 |succ j J=>
  intro q w U hw;cases aJ:par l q with
  |none=>
   have:gZ l q=[]:=by rw[<-F0 h (oA _) q,qT,aJ]
   rw[this]at hw;cases hw
  |some r=>
   have hd:=yi h aJ;rw[J7 h aJ]at hw;grind
theorem aMe{l:List aE}(h:ln l):∀(k:Nat) {x y z:Int},dep l x=k->y∈gZ l x->z∈gZ l x->dep l y=dep l z->y=z:=by
 intro k;induction k with
 |zero=>grind [dep,iO]
 |succ k U=>
  intro x y z hk J K he;cases ad:par l x with
  |none=>
   have:gZ l x=[]:=by rw[<-F0 h (oA _) x,qT,ad]
   rw[this]at J;cases J
  |some p=>
   have e:=J7 h ad;have O:dep l p=k:=by have:=yi h ad;omega
   have lt:∀{w:Int},w∈gZ l p->dep l w<dep l p:=λhw=>Pz h _ rfl hw
   grind
theorem D3{l:List aE}(U:cp l=true){dir:Int}(hd:dm dir=true){s:ag}{n:aE}(h:(s,n)∈fz l dir):par l n.id=some dir/\n∈l/\fe l n.id=some n:=by
 obtain⟨h1,h2⟩:=Jp l dir _ h;have J:=KW U h1;simp only at h1 h2 J;unfold pI at h2;rw[cV,gU]at h2;refine⟨?_,h1,J⟩;rw[par,J];simp only;rw[aj (by rw[h2.1];exact PI hd),h2.1]
theorem U0{l:List aE}{dir:Int}{s:ag}{n:aE}(h:ht s (fz l dir)=some n):(s,n)∈fz l dir:=Wb h
def ym(l:List aE)(out:List Int)(dir:Int):List ag:=qU<|((fz l dir).filter λp=> !out.contains p.2.id).map (·.1)
theorem aDI{l:List aE}(J:cp l=true)(h:ln l)(out:List Int):∀(k j:Nat) (dir:Int) (path:ag),dm dir=true->l.length<k+dep l dir->l.length<j+dep l dir->xG l out k dir path=xG l out j dir path:=by
 intro k;induction k with
 |zero=>intro j dir path _ hk;have:=BO h dir;omega
 |succ k U=>
  intro j dir path hd hk K;cases j with
  |zero=>have:=BO h dir;omega
  |succ j=>
   rw[xG,xG];congr 1;funext s;cases hl:ht s (fz l dir)with
   |none=>rfl
   |some n=>
    have ad:=(D3 J hd (U0 hl)).1;have O:=yi h ad;grind
def qY(l:List aE)(out:List Int)(dir:Int)(path:ag):List eQ:=xG l out (l.length+1) dir path
def p2(l:List aE)(out:List Int)(dir:Int)(path:ag)(s:ag):List eQ:=match ht s (fz l dir)with
 |some n=>⟨path++(47::s),n.id,n.data⟩::(if dm n.id=true then qY l out n.id (path++(47::s))else[])
 |none=>[]
theorem XT{l:List aE}(U:cp l=true)(h:ln l)(out:List Int){dir:Int}(hd:dm dir=true)(path:ag):qY l out dir path=(ym l out dir).flatMap (p2 l out dir path):=by
 rw[qY,xG];unfold ym;congr 1;funext s;unfold p2;cases hl:ht s (fz l dir)with
 |none=>rfl
 |some n=>
  have ad:=(D3 U hd (U0 hl)).1;have K:=yi h ad;simp only;by_cases J:dm n.id=true
  ·rw[aA J,aA J,qY,aDI U h out l.length (l.length+1) n.id _ J iV iV]
  ·rw[aj J,aj J]
theorem YL{l:List aE}{out:List Int}{dir:Int}{s:ag}(h:s∈ym l out dir):∃n,ht s (fz l dir)=some n/\(s,n)∈fz l dir/\out.contains n.id=false:=by
 have h1:=(Fw _).mem_iff.1 h;obtain⟨p,ad,rfl⟩:=bJ.1 h1;obtain⟨h2,h3⟩:=lV.1 ad;exact⟨p.2,aHa (A9 l dir).1 h2,h2,by simpa using h3⟩
theorem aIj(l:List aE)(out:List Int)(dir:Int):(ym l out dir).Nodup:=(Fw _).nodup_iff.2<|aD5 (A9 l dir).1 _
theorem aMf{l:List aE}(U:cp l=true)(h:ln l)(out:List Int):∀(k:Nat) (dir:Int) (path:ag),dm dir=true->l.length<k+dep l dir->
  ((qY l out dir path).map (·.id)).Nodup/\∀x∈(qY l out dir path).map (·.id),x∈l.map aE.id/\dir∈gZ l x:=by
 intro k;induction k with
 |zero=>intro dir path _ hk;have:=BO h dir;omega
 |succ k aB=>
  intro dir path hd hk;rw[XT U h out hd]
  -- the piece of one name
  have piece:∀s∈ym l out dir,∃n,(s,n)∈fz l dir/\((p2 l out dir path s).map (·.id)).Nodup/\
    ∀x∈(p2 l out dir path s).map (·.id),x∈l.map aE.id/\dir∈gZ l x/\(x=n.id\/n.id∈gZ l x):=by
   intro s hs;obtain⟨n,hl,hm,_⟩:=YL hs;obtain⟨ad,b7,_⟩:=D3 U hd hm;have Ci:=yi h ad;have I:n.id∈l.map aE.id:=bJ.2 ⟨n,b7,rfl⟩;have z:dir∈gZ l n.id:=by rw[J7 h ad];simp
   refine⟨n,hm,?_⟩;unfold p2;rw[hl];simp only;by_cases O:dm n.id=true
   ·rw[aA O];obtain⟨i1,i2⟩:=aB n.id (path++(47::s)) O iV
    refine⟨?_,λx J=>?_⟩
    ·rw[dz,u1];refine⟨λJ=>?_,i1⟩
     exact aMo h _ (i2 _ J).2
    ·rw[dz,cU]at J;rcases J with rfl|J
     ·exact⟨I,z,.inl rfl⟩
     ·obtain⟨R8,xq⟩:=i2 x J;have:dir∈gZ l x:=Qf h x n.id (lU _ xq) dir ad;exact⟨R8,this,.inr xq⟩
   ·rw[aj O];exact⟨kk,λx J=>by simp only[dz,hj,dF]at J;subst J;exact⟨I,z,.inl rfl⟩⟩
  have T:∀s∈ym l out dir,∀t∈ym l out dir,s≠t->∀x∈(p2 l out dir path s).map (·.id),x∉(p2 l out dir path t).map (·.id):=by
   intro s hs t ah V x J Z;obtain⟨n,hm, -,k1⟩:=piece s hs;obtain⟨m,AB, -,k2⟩:=piece t ah;obtain⟨-, -,aP⟩:=k1 x J;obtain⟨-, -,K⟩:=k2 x Z;obtain⟨cq,ca,f1⟩:=D3 U hd hm;obtain⟨cT,cy,f2⟩:=D3 U hd AB;have d1:=yi h cq;have d2:=yi h cT;have iB:n.id≠m.id:=λe=>by
    rw[e,f2]at f1;cases f1;have a:=(A9 l dir).2 _ hm;have b:=(A9 l dir).2 _ AB;exact V<|a.symm.trans b
   rcases aP with rfl|aP<;>rcases K with al|K
   ·exact iB al
   ·have:=Pz h _ rfl K;omega
   ·subst al;have:=Pz h _ rfl aP;omega
   ·exact iB<|aMe h _ rfl aP K iV
  refine⟨?_,λx J=>?_⟩
  ·rw[List.map_flatMap];rw[List.nodup_iff_pairwise_ne,List.pairwise_flatMap];refine⟨λs hs=>?_,?_⟩
   ·obtain⟨_,_,k1,_⟩:=piece s hs;exact k1
   ·have jn:=aIj l out dir;rw[List.nodup_iff_pairwise_ne]at jn;exact(List.Pairwise.and_mem.1 jn).imp fun{s t} ⟨hs,ah,V⟩ x J y Z e=>by subst e;exact T s hs t ah V x J Z
  ·rw[List.map_flatMap,u2]at J;obtain⟨s,hs,J⟩:=J;obtain⟨_,_,_,k1⟩:=piece s hs;exact⟨(k1 x J).1,(k1 x J).2.1⟩
theorem PJ{l:List aE}(U:cp l=true)(h:ln l)(out:List Int)(dir:Int)(path:ag)(hd:dm dir=true):(qY l out dir path).length<=l.length:=by
 obtain⟨h1,h2⟩:=aMf U h out (l.length+1) dir path hd iV
 have:=aBQ h1 λx J=>(h2 x J).1
 simpa using this
theorem aM8(l:List Int):(l.flatMap Lib.encodeRune).length<=4 * l.length:=by
 induction l with
 |nil=>simp
 |cons x l J=>
  have:=(Lib.encodeRuneZ_length x).2;have e:(Lib.encodeRune x).length=(Lib.encodeRuneZ x).length:=by simp[Lib.encodeRune]
  grind
theorem GQ{s:ag}(h:sn s=true):s.length<=80:=by
 unfold sn at h;cases hs:tp s with
 |none=>rw[hs]at h;simp at h
 |some l=>
  rw[hs]at h;have e:=(M4 hs).1;have:=aM8 l;grind
theorem St{o:aX}(h:b0 o=true):o.name.length<=80/\o.data.length<=64:=by
 unfold b0 at h;simp only[cV]at h;obtain⟨⟨⟨h1,h2⟩,h3⟩,h4⟩:=h;split at h4
 ·unfold tS at h4;simp only[cV,gU]at h4;exact⟨GQ h4.1.2,by rw[h4.2];simp⟩
 ·unfold ve at h4;grind
theorem Dw{o:aX}(h:b0 o=true):hD o:=⟨by have:=(St h).1;omega,by have:=(St h).2;omega⟩
theorem aRn(l:List aX)(es:List fu)(n:List aE):(fb l es n).2=l.foldl dX n:=by
 induction l generalizing es n with
 |nil=>rfl
 |cons o l J=>rw[fb,J];rfl
theorem QG(h:Good g):g.nodes=(dK g).foldl dX []:=by
 have e:=h.log;have:(gR (dK g)).nodes=(dK g).foldl dX []:=aRn _ _ _;rw[<-e]at this;exact this
structure Bt (q:Int) (n:aE):Prop where
 name:n.name.length<=80
 data:n.data.length<=64
 id:j3 n.id<=q
 par:j3 n.parent<=q
theorem aBr{n:Int}(h:vi a b n=false)(U:0<=a):j3 n<=a:=by
 unfold vi at h;cases J:fV n with
 |false=>unfold j3;rw[J];simpa using U
 |true=>
  rw[J,sH]at h;have:¬zG a b (j3 n) (y7 n)=true:=by rw[h];simp
  rw[G9]at this;omega
theorem aQQ:j3 (-1)=0:=l9
theorem aQP:j3 2=0:=l9
theorem aBG:j3 0=0:=l9
theorem PU{o:aX}(h:b0 o=true):1<=o.at_.c/\o.at_.c<=1048576/\0<=o.at_.r/\o.at_.r<=63/\j3 o.node<=o.at_.c/\j3 o.parent<=o.at_.c/\fV o.node=true/\(o.kind=1\/o.kind=2):=by
 have hk:=Sq h;unfold b0 at h;simp only[cV,sB]at h;obtain⟨⟨⟨h1,h2⟩,h3⟩,h4⟩:=h;rw[vf]at h2;refine⟨h2.1,h2.2.1,h2.2.2.1,h2.2.2.2,aBr h3 iV,?_,?_,hk⟩
 ·split at h4
  ·unfold tS at h4;simp only[cV,sB]at h4;exact aBr h4.1.1.2 iV
  ·grind [ve,aBG]
 ·split at h4
  ·unfold tS at h4;simp only[cV]at h4;exact h4.1.1.1.1
  ·unfold ve at h4;simp only[cV]at h4;exact h4.1.1.1.1
theorem BI{l:List aE}{n:aE}(h:fe l x=some n):n∈l/\n.id=x:=by
 unfold fe at h;exact⟨sC h,by simpa using List.find?_some h⟩
theorem aQH{l:List aE}{o:aX}(h:∀n∈l,Bt q n)(J:b0 o=true)(aJ:o.at_.c<=q):∀n∈dX l o,Bt q n:=by
 cases U:refused l o with
 |true=>grind [dX]
 |false=>
  rw[wO U];obtain⟨T, -, -, -,V,K, -,hk⟩:=PU J;obtain⟨s1,s2⟩:=St J;have hw:Bt q (pM l o):=by
   unfold pM;split
   ·rename_i n O;exact h n (BI O).1
   ·grind [uI,aQQ,Int,List,aX,Bt,b0,dX]
  intro n af;rcases aBW af with rfl|af
  ·unfold je;have Z:(pM l o).id=o.node:=by
    have:=C1 l o;unfold je at this;split at this<;>exact this
   split
   ·exact⟨s1,hw.data,hw.id,by simp only;omega⟩
   ·exact⟨hw.name,s2,hw.id,hw.par⟩
  ·exact h n af
theorem aQI(s:List aX){l:List aE}(h:∀n∈l,Bt q n)(hs:∀o∈s,b0 o=true/\o.at_.c<=q):∀n∈s.foldl dX l,Bt q n:=by
 induction s generalizing l with
 |nil=>exact h
 |cons o s J=>exact J (aQH h (hs o kk).1 (hs o kk).2) λo U=>hs o<|lU _ U
theorem aNo(l:List aX)(n:List aE):(l.foldl dX n).length<=n.length+l.length:=by
 induction l generalizing n with
 |nil=>exact bd _
 |cons o l J=>have:=J<|dX n o;have:=Pb n o;grind
structure rN (q:Int) (l:List aE):Prop where
 l0:mg l
 len:l.length<=200
 de:∀n∈l,Bt q n
theorem rN.up{l:List aE}(h:rN q l)(aJ:q<=r):rN r l:=⟨h.l0,h.len,λn af=>⟨(h.de n af).name,(h.de n af).data,Int.le_trans (h.de n af).id aJ,Int.le_trans (h.de n af).par aJ⟩⟩
structure fk (m:c0):Prop where
 n4:Good m.log
 cap:m.log.entries.length<=200
 tY:∀o∈dK m.log,o.at_.c<=m.seen
 seen:0<=m.seen
 rep:0<=m.rep/\m.rep<=63
 cN:m.cN.length<=8
 snap:∀s∈m.cN,rN m.seen s.nodes
 cd:m.cd.length<=8
 watch:∀w∈m.cd,dm w.dir=true/\w.bV.length<=9/\(w.over=false->w.bV.length<=8)
theorem fk.aQW{m:c0}(h:fk m):(dK m.log).length<=200:=by rw[dK,cv];exact h.cap
theorem fk.nodes{m:c0}(h:fk m):rN m.seen m.log.nodes:=by
 rw[QG h.n4];refine⟨aNq _ aNr,?_,aQI _ (λn af=>by cases af) λo J=>⟨h.n4.ok o J,h.tY o J⟩⟩
 have:=aNo (dK m.log) [];have:=h.aQW;grind
theorem YM{m:c0}(h:j2 r=(m,0)):fk m:=by
 unfold j2 at h;split at h
 ·rename_i J;cases h;exact⟨aLL,by simp[mz],by simp[dK,mz],jP _,J,by simp[mz],by simp[mz],by simp[mz],by simp[mz]⟩
 ·cases h
theorem aQ0(l:List aE):∀(names:List ag) (x d:Int),iG l x names=(d,0)->(names=[]/\d=x)\/∃n∈l,n.id=d:=by
 intro names;induction names with
 |nil=>grind [List,Int,iG]
 |cons s names U=>
  intro x d h;rw[iG]at h;split at h
  ·cases J:fx l x s with
   |none=>rw[J]at h;cases h
   |some n=>
    rw[J]at h;rcases U n.id d h with⟨-,rfl⟩|h
    ·exact .inr ⟨n,(FC J).2.1,rfl⟩
    ·exact .inr h
  ·cases h
theorem P9{l:List aE}{names:List ag}{d:Int}(h:fp l names=(d,0)):(names=[]/\d=0)\/∃n∈l,n.id=d:=aQ0 l names 0 d h
theorem at_mem{l:List aE}{d:Int}(h:fi l p=(d,0)):∃J,gB p=some J/\((J=[]/\d=0)\/∃n∈l,n.id=d):=by
 grind [fi,gB,P9]
theorem aNl{l:List aE}{J:List ag}{d:Int}(hl:rN q l)(aJ:0<=q)(h:fp l J=(d,0)):j3 d<=q:=by
 rcases P9 h with⟨-,rfl⟩|⟨n,af,rfl⟩
 ·rw[aBG];exact aJ
 ·exact(hl.de n af).id
theorem Ld{l:List ag}(h:gB p=some l):∀s∈l,sn s=true:=by
 unfold gB at h;grind [gB,yq,gm]
theorem Qg{l:List aE}{d:Int}{s:ag}(hl:rN q l)(aJ:0<=q)(h:iQ l p=(d,s,0)):dm d=true/\j3 d<=q/\sn s=true:=by
 unfold iQ at h;split at h
 ·cases h
 ·cases h
 ·rename_i x xs af;split at h
  ·rename_i aw;split at h
   ·rename_i hd;cases h;refine⟨hd,aNl hl aJ<|show fp l (x::xs).dropLast=((fp l (x::xs).dropLast).1,0) by rw[<-aw],?_⟩
    exact Ld af _<|List.getLast_mem _
   ·cases h
  grind
theorem aBy{m:c0}{s:kX}(h:gv m=(s,0)):xK m.seen m.rep=true/\m.log.entries.length<200/\s=⟨m.seen+1,m.rep⟩:=by
 unfold gv at h;split at h
 ·cases h
 ·rename_i h1;split at h
  ·cases h
  ·rename_i h2;cases h;exact⟨by simpa using h1,iV,rfl⟩
def we(m:c0)(o:aX):c0:={m with log:=fc m.log o,seen:=m.seen+1}
theorem MV(h:fk d.m){o:aX}(af:(gv d.m).2=0)(J:b0 {o with at_:=⟨d.m.seen+1,d.m.rep⟩}=true):
  sS d o=(0,{d with m:=we d.m {o with at_:=⟨d.m.seen+1,d.m.rep⟩},ops:=d.ops++[{o with at_:=⟨d.m.seen+1,d.m.rep⟩}]}):=by
 obtain⟨s,hs⟩:∃s,gv d.m=(s,0):=⟨_,by rw[<-af]⟩
 obtain⟨h1,h2,rfl⟩:=aBy hs;have U:nR d.m.log {o with at_:=⟨d.m.seen+1,d.m.rep⟩}=0:=by
  unfold nR;rw[aj (by rw[J];simp)]
  split
  ·rfl
  ·rw[aj iV]
 unfold sS;simp only[hs,dG];unfold ox;rw[U];rfl
theorem SC{o:aX}(af:(gv d.m).2≠0):sS d o=((gv d.m).2,d):=by
 unfold sS;rw[aj af]
theorem z1{m:c0}(af:(gv m).2=0):(gv m).1=⟨m.seen+1,m.rep⟩/\0<=m.seen/\m.seen<1048576/\0<=m.rep/\m.rep<=63/\m.log.entries.length<200:=by
 obtain⟨s,hs⟩:∃s,gv m=(s,0):=⟨_,by rw[<-af]⟩
 obtain⟨h1,h2,rfl⟩:=aBy hs;rw[Jx]at h1;exact⟨by rw[hs],h1.1,h1.2.1,h1.2.2.1,h1.2.2.2,h2⟩
theorem aBH{d:Bool}(h1:1<=a)(h2:a<=1048576)(h3:0<=b)(h4:b<=63):fV (o0 a b d)=true/\j3 (o0 a b d)=a/\y7 (o0 a b d)=b/\xD (o0 a b d)=d:=by
 have hk:o8 a b=true:=by rw[vf];exact⟨h1,h2,h3,h4⟩
 have e:o0 a b d=128 * a+2 * b+(if d then 1 else 0):=by rw[o0,aA hk]
 have J:fV (o0 a b d)=true:=by rw[e,Bg];cases d<;>simp<;>omega
 refine⟨J,?_,?_,?_⟩
 ·rw[j3,aA J,e];cases d<;>simp<;>omega
 ·rw[y7,aA J,e];cases d<;>simp<;>omega
 ·rw[xD,J,e];cases d<;>simp<;>omega
theorem MI{n:Int}(h:j3 n<a):vi a b n=false:=by
 unfold vi;cases fV n with
 |false=>rfl
 |true=>
  rw[sH,wB,Ne,G9];omega
theorem aQn{n:Int}(h1:j3 n=a)(h2:y7 n=b):vi a b n=false:=by
 unfold vi;rw[h1,h2];cases fV n with
 |false=>rfl
 |true=>
  rw[sH,wB,Ne,G9];omega
theorem Sr{n p:Int}{s:ag}(h1:1<=a)(h2:a<=1048576)(h3:0<=b)(h4:b<=63)(af:fV n=true)(hl:vi a b n=false)(ad:dm p=true)(J:j3 p<a)(hs:sn s=true):b0 ⟨⟨a,b⟩,1,n,p,s,[]⟩=true:=by
 unfold b0;have hk:o8 a b=true:=by rw[vf];exact⟨h1,h2,h3,h4⟩
 simp only[hk,hl];unfold tS;simp[af,ad,hs,MI J]
theorem aQT{n:Int}{t:ag}(h1:1<=a)(h2:a<=1048576)(h3:0<=b)(h4:b<=63)(af:fV n=true)(J:xD n=true)(hl:vi a b n=false)(ah:t.length<=64):b0 ⟨⟨a,b⟩,2,n,0,[],t⟩=true:=by
 unfold b0;have hk:o8 a b=true:=by rw[vf];exact⟨h1,h2,h3,h4⟩
 simp only[hk,hl];unfold ve;simp only[af,J];simp;omega
theorem aP6(U:Good g)(o:aX):∀x∈dK (fc g o),x=o\/x∈dK g:=by
 intro x J;rcases(BJ U o).2 with⟨e, -, -⟩|⟨e, -, -⟩
 ·rw[e]at J;exact .inr J
 ·rw[e]at J;exact Bz.1 J
theorem aQE{m:c0}(h:fk m){o:aX}(U:o.at_.c<=m.seen+1)(K:m.log.entries.length<200):fk (we m o) where
 n4:=(BJ h.n4 o).1
 cap:=by have:=(DO m.log o).1;unfold we;simp only;omega
 tY:=λx J=>by
  rcases aP6 h.n4 o x J with rfl|J
  ·exact U
  ·exact Int.le_trans (h.tY x J)<|by show m.seen<=m.seen+1;omega
 seen:=by have:=h.seen;show 0<=m.seen+1;omega
 rep:=h.rep
 cN:=h.cN
 snap:=λs hs=>(h.snap s hs).up<|by show m.seen<=m.seen+1;omega
 cd:=h.cd
 watch:=h.watch
theorem aQ9(e:List eb)(b:Bool)(l:List eb)(he:e.length<=9/\(b=false->e.length<=8)):(oI e b l).1.length<=9/\((oI e b l).2=false->(oI e b l).1.length<=8):=by
 unfold oI;cases b with
 |true=>exact⟨he.1,λh=>by cases h⟩
 |false=>
  have:=he.2 rfl;rw[aj kk]
  split
  ·refine⟨?_,λh=>by cases h⟩
   simp only[bF,eK,cg,eg];omega
  ·rename_i h;simp only[bF];exact⟨iV,λ_=>iV⟩
theorem aQF(h:fk d.m)(b1:List aE):fk (zF b1 d).m where
 n4:=h.n4
 cap:=h.cap
 tY:=h.tY
 seen:=h.seen
 rep:=h.rep
 cN:=h.cN
 snap:=h.snap
 cd:=by show(d.m.cd.map _).length<=8;rw[cv];exact h.cd
 watch:=λw hw=>by
  obtain⟨v,J,rfl⟩:=bJ.1 hw;obtain⟨h1,h2⟩:=h.watch v J;exact⟨h1,aQ9 _ _ _ h2⟩
theorem ML{m:c0}(h:fk m){s:List Bw}{w:List oH}{n:Int}(h1:s.length<=8)(h2:∀x∈s,rN m.seen x.nodes)(h3:w.length<=8)(h4:∀x∈w,dm x.dir=true/\x.bV.length<=9/\(x.over=false->x.bV.length<=8)):
  fk {m with cN:=s,cd:=w,next:=n}:=
 ⟨h.n4,h.cap,h.tY,h.seen,h.rep,h1,h2,h3,h4⟩
theorem aM7(n:Int)(l:List oH):(wj n l).length=l.length/\∀w∈wj n l,∃v∈l,w.dir=v.dir/\w.n=v.n/\w.over=v.over/\(w.bV=v.bV\/w.bV=[]):=by
 induction l with
 |nil=>exact⟨rfl,λw hw=>by cases hw⟩
 |cons x l J=>
  unfold wj;split
  ·refine⟨rfl,λw hw=>?_⟩
   rcases cU.1 hw with rfl|hw
   ·exact⟨x,kk,rfl,rfl,rfl,.inr rfl⟩
   ·exact⟨w,lU _ hw,rfl,rfl,rfl,.inl rfl⟩
  ·refine⟨by simp[J.1],λw hw=>?_⟩
   rcases cU.1 hw with rfl|hw
   ·exact⟨w,kk,rfl,rfl,rfl,.inl rfl⟩
   ·obtain⟨v,U,q⟩:=J.2 w hw;exact⟨v,lU _ U,q⟩
theorem aM1{n:Int}(h:fV n=true)(hd:dm n=false):xD n=true:=by
 unfold dm at hd;simp only[h,sH,Bool.or_eq_false_iff,Bool.not_eq_false']at hd;exact hd.2
theorem BP{l:List aE}(h:mg l){n:aE}(af:n∈l):fV n.id=true:=((zd l).1 h.cp).1 n af
def B1(m:c0)(c:b8)(dir:Int)(s:ag):aX:=⟨⟨m.seen+1,m.rep⟩,1,o0 (m.seen+1) m.rep<|decide (c.kind=1),dir,s,[]⟩
def B5(d:cn)(o:aX):Int×cn:=(0,{d with m:=we d.m o,ops:=d.ops++[o]})
theorem Qm{c:b8}(h:fk d.m):(∃e,e≠0/\zW c d=(e,d))\/
  ∃dir s,c.path≠[47]/\iQ d.m.log.nodes c.path=(dir,s,0)/\fx d.m.log.nodes dir s=none/\(gv d.m).2=0/\b0 (B1 d.m c dir s)=true/\zW c d=B5 d (B1 d.m c dir s):=by
 unfold zW;by_cases h1:c.path=[47]
 ·simp_all
 rw[aj h1];obtain⟨⟨dir,s,e⟩,J⟩:∃x,iQ d.m.log.nodes c.path=x:=⟨_,rfl⟩;rw[J];simp only;by_cases h2:e=0
 ·subst h2;rw[aA rfl];obtain⟨T,a2,a3⟩:=Qg h.nodes h.seen J;cases V:fx d.m.log.nodes dir s with
  |some n=>exact .inl ⟨190,l9,aA rfl⟩
  |none=>
   rw[aj kk]
   by_cases h3:(gv d.m).2=0
   ·rw[aA h3];obtain⟨Z,fh,I,U,K,n6⟩:=z1 h3;rw[Z];obtain⟨i1,i2,i3,i4⟩:=aBH (d:=decide<|c.kind=1) (show 1<=d.m.seen+1 by omega) (show d.m.seen+1<=1048576 by omega) U K
    have O:b0 (B1 d.m c dir s)=true:=Sr iV iV U K i1 (aQn i2 i3) T iV a3
    exact .inr ⟨dir,s,h1,rfl,V,h3,O,MV h h3 O⟩
   ·rw[aj h3];exact .inl ⟨_,h3,rfl⟩
 ·rw[aj h2];exact .inl ⟨e,h2,rfl⟩
def Ho(m:c0)(c:b8)(id:Int):aX:=⟨⟨m.seen+1,m.rep⟩,2,id,0,[],c.data⟩
theorem PR{c:b8}(h:fk d.m)(hd:c.data.length<=64):(∃e,e≠0/\zE c d=(e,d))\/
  ∃id,fi d.m.log.nodes c.path=(id,0)/\dm id=false/\(gv d.m).2=0/\b0 (Ho d.m c id)=true/\zE c d=B5 d (Ho d.m c id):=by
 unfold zE;obtain⟨⟨id,e⟩,U⟩:∃x,fi d.m.log.nodes c.path=x:=⟨_,rfl⟩;rw[U];simp only;by_cases h2:e=0
 ·subst h2;rw[aA rfl];cases J:dm id with
  |true=>grind
  |false=>
   rw[aj kk]
   by_cases h3:(gv d.m).2=0
   ·obtain⟨Z,fh,I,T,V,n6⟩:=z1 h3;obtain⟨z, -,⟨-,rfl⟩|⟨n,af,rfl⟩⟩:=at_mem U
    ·cases J
    ·have K:=BP h.nodes.l0 af;have O:b0 (Ho d.m c n.id)=true:=aQT iV iV T V K (aM1 K J) (MI (by have:=(h.nodes.de n af).id;omega)) hd
     exact .inr ⟨n.id,rfl,J,h3,O,MV h h3 O⟩
   ·exact .inl ⟨_,h3,SC h3⟩
 ·rw[aj h2];exact .inl ⟨e,h2,rfl⟩
def sR(m:c0)(id dir:Int)(s:ag):aX:=⟨⟨m.seen+1,m.rep⟩,1,id,dir,s,[]⟩
theorem Zi{m:c0}(h:fk m){id:Int}(ad:p≠[47])(J:fi m.log.nodes p=(id,0)):fV id=true/\j3 id<=m.seen/\∃n∈m.log.nodes,n.id=id:=by
 obtain⟨K,af,⟨U, -⟩|⟨n,af,rfl⟩⟩:=at_mem J
 ·subst U;unfold gB at af;rw[aj ad]at af;split at af
  ·cases af
  ·split at af
   ·split at af
    ·exact absurd (qP af)<|NQ _ _
    ·cases af
   ·cases af
 ·exact⟨BP h.nodes.l0 af,(h.nodes.de n af).id,n,af,rfl⟩
theorem PV{c:b8}(h:fk d.m):(∃e,e≠0/\zP c d=(e,d))\/
  ∃id dir s,c.path≠[47]/\c.to≠[47]/\fi d.m.log.nodes c.path=(id,0)/\iQ d.m.log.nodes c.to=(dir,s,0)/\fx d.m.log.nodes dir s=none/\dir≠id/\(og d.m.log.nodes dir).contains id=false/\(gv d.m).2=0/\
   b0 (sR d.m id dir s)=true/\zP c d=B5 d (sR d.m id dir s):=by
 unfold zP;by_cases h1:c.path=[47]\/c.to=[47]
 ·simp_all
 rw[aj h1];obtain⟨⟨id,e⟩,U⟩:∃x,fi d.m.log.nodes c.path=x:=⟨_,rfl⟩;rw[U];simp only;by_cases h2:e=0
 ·subst h2;rw[aA rfl];obtain⟨⟨dir,s,f⟩,K⟩:∃x,iQ d.m.log.nodes c.to=x:=⟨_,rfl⟩;rw[K];simp only;by_cases h3:f=0
  ·subst h3;rw[aA rfl];obtain⟨T,a2,a3⟩:=Qg h.nodes h.seen K;cases V:fx d.m.log.nodes dir s with
   |some n=>exact .inl ⟨190,l9,aA rfl⟩
   |none=>
    rw[aj kk]
    by_cases h4:dir=id\/(og d.m.log.nodes dir).contains id=true
    ·rw[aA h4];exact .inl ⟨192,l9,rfl⟩
    rw[aj h4];by_cases J:(gv d.m).2=0
    ·obtain⟨eE,fh,ib,Z,I,n6⟩:=z1 J;obtain⟨z,MR, -⟩:=Zi h (λe=>h1<|.inl e) U
     have O:b0 (sR d.m id dir s)=true:=Sr iV iV Z I z (MI iV) T iV a3
     exact .inr ⟨id,dir,s,λe=>h1<|.inl e,λe=>h1<|.inr e,rfl,rfl,V,λe=>h4<|.inl e,by simpa using λe=>h4<|.inr e,J,O,MV h J O⟩
    ·exact .inl ⟨_,J,SC J⟩
  ·rw[aj h3];exact .inl ⟨f,h3,rfl⟩
 ·rw[aj h2];exact .inl ⟨e,h2,rfl⟩
theorem PK{c:b8}(h:fk d.m):(∃e,e≠0/\Bd c d=(e,d))\/
  ∃id s,c.path≠[47]/\fi d.m.log.nodes c.path=(id,0)/\(∃x xs,gB c.path=some (x::xs)/\s=(x::xs).getLast kk)/\(gv d.m).2=0/\b0 (sR d.m id 2 s)=true/\Bd c d=B5 d (sR d.m id 2 s):=by
 unfold Bd;by_cases h1:c.path=[47]
 ·simp_all
 rw[aj h1];obtain⟨⟨id,e⟩,U⟩:∃x,fi d.m.log.nodes c.path=x:=⟨_,rfl⟩;rw[U];simp only;by_cases h2:e=0
 ·subst h2;rw[aA rfl];split
  ·rename_i x xs af;by_cases J:(gv d.m).2=0
   ·obtain⟨Z,fh,I,O,T,n6⟩:=z1 J;obtain⟨V,z, -⟩:=Zi h h1 U;have K:b0 (sR d.m id 2<|(x::xs).getLast kk)=true:=Sr iV iV O T V (MI iV) l9 (by rw[aQP];omega)<|Ld af _ (List.getLast_mem _)
    exact .inr ⟨id,_,h1,rfl,⟨x,xs,af,rfl⟩,J,K,MV h J K⟩
   ·exact .inl ⟨_,J,SC J⟩
  ·exact .inl ⟨194,l9,rfl⟩
 ·rw[aj h2];exact .inl ⟨e,h2,rfl⟩
theorem Y8{b r:ag}{o:aX}(h:oj b=some (o,r)):b0 o=true:=by
 grind [oj,ni]
theorem aRm:∀(k:Nat) (b:ag) (l:List aX),o6 k b=some l->∀o∈l,b0 o=true:=by
 intro k;induction k with
 |zero=>
  grind [o6]
 |succ k U=>
  intro b l h;unfold o6 at h;split at h
  ·cases h;intro o K;cases K
  ·simp only[ni]at h;obtain⟨⟨o,r⟩,h1,h2⟩:=h;simp only[hC]at h2;obtain⟨t,h3,rfl⟩:=h2;intro x J;rcases cU.1 J with rfl|J
   ·exact Y8 h1
   ·exact U r t h3 x J
theorem DR{b:ag}{l:List aX}(h:iJ b=some l):∀o∈l,b0 o=true:=aRm _ _ _ h
theorem K9(g:fC):∀(l acc:List aX),∀x∈gq g acc l,x∈acc\/x∈l:=by
 intro l;induction l<;>grind [gq]
theorem aMu:∀(l:List aX) (d:cn),(∀o∈l,b0 o=true)->d.m.log.entries.length+l.length<=200->mY d l=(0,{d with m:={d.m with log:=eN d.m.log l},ops:=d.ops++l}):=by
 intro l;induction l with
 |nil=>intro d _ _;simp[mY,eN]
 |cons o l U=>
  intro d K O;rw[cg]at O;have T:nR d.m.log o=0:=by
   unfold nR;grind
  have hk:ox d o=(0,{d with m:={d.m with log:=fc d.m.log o},ops:=d.ops++[o]}):=by unfold ox;rw[aA T]
  have hl:=(DO d.m.log o).1;rw[mY,hk];simp only[dG];rw[U _ (λx J=>K x<|lU _ J) (by simp only;omega)]
  simp[eN]
theorem Hp(l:List aX):∀(n:Int),n<=l.foldl (λn o=>lP n o.at_) n/\∀o∈l,b0 o=true->o.at_.c<=l.foldl (λn o=>lP n o.at_) n:=by
 induction l with
 |nil=>grind
 |cons x l K=>
  intro n;obtain⟨i1,i2⟩:=K<|lP n x.at_;have h1:n<=lP n x.at_:=by unfold lP;split<;>omega
  refine⟨Int.le_trans h1 i1,λo J U=>?_⟩
  rcases cU.1 J with rfl|J
  ·refine Int.le_trans ?_ i1;obtain⟨O,T,V,Z, -⟩:=PU U;unfold lP;rw[aA (by rw[vf];exact⟨O,T,V,Z⟩)]
   omega
  ·exact i2 o J U
theorem aMv(l:List aX):∀g:fC,(eN g l).entries.length<=g.entries.length+l.length:=by
 induction l with
 |nil=>exact λg=>bd _
 |cons o l J=>intro g;have:=J<|fc g o;have:=(DO g o).1;rw[eN,cg];omega
def CS(m:c0)(l:List aX):c0:={m with log:=eN m.log<|gq m.log [] l,seen:=l.foldl (λn o=>lP n o.at_) m.seen}
theorem aBw{c:b8}:(∃e,e≠0/\BH c d=(e,d))\/
  ∃l,iJ c.data=some l/\d.m.log.entries.length+(gq d.m.log [] l).length<=200/\
   BH c d=(0,{m:=CS d.m l,a:={d.a with n:=((gq d.m.log [] l).length:Int)},ops:=d.ops++gq d.m.log [] l}):=by
 unfold BH;cases J:iJ c.data with
 |none=>exact .inl ⟨50,l9,rfl⟩
 |some l=>
  simp only;by_cases h1:(200:Int)<(d.m.log.entries.length:Int)+((gq d.m.log [] l).length:Int)
  ·grind
  rw[aj h1];have U:∀o∈gq d.m.log [] l,b0 o=true:=λo K=>by
   rcases K9 _ _ _ o K with h|h
   ·cases h
   ·exact DR J o h
  rw[aMu _ d U iV]
  exact .inr ⟨l,rfl,iV,rfl⟩
theorem aQD{m:c0}(h:fk m){l:List aX}(K:∀o∈l,b0 o=true)(O:m.log.entries.length+(gq m.log [] l).length<=200):fk (CS m l) where
 n4:=XD h.n4 _
 cap:=by have:=aMv (gq m.log [] l) m.log;unfold CS;simp only;omega
 tY:=λx J=>by
  rcases(Ym h.n4 _).1 x J with J|⟨J,U⟩
  ·exact Int.le_trans (h.tY x J) (Hp l m.seen).1
  ·rcases K9 _ _ _ x J with J|J
   ·cases J
   ·exact(Hp l m.seen).2 x J U
 seen:=Int.le_trans h.seen (Hp l m.seen).1
 rep:=h.rep
 cN:=h.cN
 snap:=λs hs=>(h.snap s hs).up (Hp l m.seen).1
 cd:=h.cd
 watch:=h.watch
theorem Qa{c:b8}(h:rT c=true)(hk:c.kind=3):c.data.length<=64:=by
 unfold rT at h;rw[hk]at h;have ad:BA 3=some 5:=rfl;rw[ad]at h;simp only[cV]at h;have J:=h.2.2.1;rw[rG,aj l9,aj l9,gU]at J
 omega
theorem PW{m:c0}{c:b8}(h:fk m)(au:rT c=true)(aw:(js c ⟨m,du,[]⟩).1=0):fk (js c ⟨m,du,[]⟩).2.m:=by
 have put:∀{o:aX} {r:Int×cn},r=B5 ⟨m,du,[]⟩ o->o.at_.c<=m.seen+1->(gv m).2=0->fk r.2.m:=λe h1 h2=>by
  subst e;exact aQE h h1 (z1 h2).2.2.2.2.2
 have err:∀{e:Int} {r:Int×cn},e≠0->r=(e,⟨m,du,[]⟩)->r.1=0->fk r.2.m:=λh1 e h2=>by subst e;exact absurd h2 h1
 unfold js at aw ⊢;by_cases k1:c.kind=1\/c.kind=2
 ·rw[aA k1]at aw ⊢;rcases Qm (c:=c) (d:=⟨m,du,[]⟩) h with⟨e,he,av⟩|⟨dir,s, -, -, -,af, -,av⟩
  ·exact err he av aw
  ·exact put av (jP _) af
 rw[aj k1]at aw ⊢;by_cases k3:c.kind=3
 ·rw[aA k3]at aw ⊢;rcases PR (c:=c) (d:=⟨m,du,[]⟩) h (Qa au k3)with⟨e,he,av⟩|⟨id, -, -,af, -,av⟩
  ·exact err he av aw
  ·exact put av (jP _) af
 rw[aj k3]at aw ⊢;by_cases k4:c.kind=4
 ·grind [D4]
 rw[aj k4]at aw ⊢;by_cases U:c.kind=5
 ·rw[aA U]at aw ⊢;rcases PV (c:=c) (d:=⟨m,du,[]⟩) h with⟨e,he,av⟩|⟨id,dir,s, -, -, -, -, -, -, -,af, -,av⟩
  ·exact err he av aw
  ·exact put av (jP _) af
 rw[aj U]at aw ⊢;by_cases K:c.kind=6
 ·rw[aA K]at aw ⊢;rcases PK (c:=c) (d:=⟨m,du,[]⟩) h with⟨e,he,av⟩|⟨id,s, -, -, -,af, -,av⟩
  ·exact err he av aw
  ·exact put av (jP _) af
 rw[aj K]at aw ⊢;by_cases O:c.kind=7
 ·rw[aA O]at aw ⊢;unfold Ft;split
  ·exact h
  ·split
   ·split<;>exact h
   ·exact h
 rw[aj O]at aw ⊢;by_cases T:c.kind=8
 ·rw[aA T]at aw ⊢;unfold D5;split
  ·exact h
  ·rename_i hl;refine ML h ?_ (λx J=>?_) h.cd h.watch
   ·rw[bF];simp only[cg,eg]at hl ⊢;omega
   ·rcases e4.1 J with J|J
    ·exact h.snap x J
    ·rw[dF]at J;subst J;exact h.nodes
 rw[aj T]at aw ⊢;by_cases V:c.kind=9
 ·rw[aA V]at aw ⊢;unfold D6;split
  ·exact h
  ·exact ML (n:=m.next) h (fr (pd ..) h.cN) (λx J=>h.snap x (lV.1 J).1) (fr (pd ..) h.cd) λx J=>h.watch x (lV.1 J).1
 rw[aj V]at aw ⊢;by_cases Z:c.kind=10
 ·rw[aA Z]at aw ⊢;unfold D1;split
  ·split
   ·rename_i eC;split
    ·exact h
    ·rename_i hl;refine ML h h.cN h.snap ?_ (λx J=>?_)
     ·rw[bF];simp only[cg,eg]at hl ⊢;omega
     ·rcases e4.1 J with J|J
      ·exact h.watch x J
      ·rw[dF]at J;subst J;exact⟨eC,kk,kk⟩
   ·exact h
  ·exact h
 rw[aj Z]at aw ⊢;by_cases I:c.kind=11
 ·rw[aA I]at aw ⊢;unfold D7;split
  ·exact h
  ·obtain⟨av,al⟩:=aM7 c.n m.cd;refine ML (n:=m.next) h h.cN h.snap (by rw[av];exact h.cd) λx J=>?_
   obtain⟨v,aG,aP, -,bH,aR⟩:=al x J;obtain⟨z,dE,fX⟩:=h.watch v aG;rw[aP,bH];rcases aR with q|q<;>rw[q]
   ·exact⟨z,dE,fX⟩
   ·exact⟨z,kk,kk⟩
 rw[aj I]at aw ⊢;by_cases IG:c.kind=12
 ·rw[aA IG]at aw ⊢;exact h
 rw[aj IG]at aw ⊢;rcases aBw (c:=c) (d:=⟨m,du,[]⟩)with⟨e,he,av⟩|⟨l,az,mq,av⟩
 ·exact err he av aw
 ·rw[av];exact aQD h (DR az) mq
theorem Qj{m:c0}(h:fk m)(c:b8):fk (er m c).1:=by
 unfold er;split
 ·exact h
 ·rename_i J;split
  ·rename_i aw;have:=PW h (by simpa using J) aw
   split
   ·exact this
   ·exact aQF this _
  ·exact h
def Jq(m ir:c0):c0:={ir with cd:=ir.cd.map (PQ m.log.nodes ir.log.nodes)}
theorem PA{c:b8}(h:rT c=true):c.kind=1\/c.kind=2\/c.kind=3\/c.kind=4\/c.kind=5\/c.kind=6\/c.kind=7\/c.kind=8\/c.kind=9\/c.kind=10\/c.kind=11\/c.kind=12\/c.kind=13:=by
 grind [rT,BA]
inductive GG (m:c0) (c:b8):Int×cn->Prop
 |err (e:Int) (d:cn) (he:e≠0):GG m c (e,d)
 |put (o:aX) (hk:c.kind=1\/c.kind=2\/c.kind=3\/c.kind=5\/c.kind=6) (af:(gv m).2=0) (aD:b0 o=true) (aF:o.at_=⟨m.seen+1,m.rep⟩):GG m c (B5 ⟨m,du,[]⟩ o)
 |lO (ir:c0) (a:nn) (aF:a.err=0) (h1:ir.log=m.log) (h2:ir.seen=m.seen) (h3:ir.rep=m.rep) (h4:(c.kind=4\/c.kind=7\/c.kind=12)->ir=m):GG m c (0,⟨ir,a,[]⟩)
 |merge (l:List aX) (hk:c.kind=13) (az:iJ c.data=some l) (au:m.log.entries.length+(gq m.log [] l).length<=200):
   GG m c (0,⟨CS m l,{du with n:=((gq m.log [] l).length:Int)},gq m.log [] l⟩)
theorem aR0{m:c0}{c:b8}(h:fk m)(U:rT c=true):GG m c (js c ⟨m,du,[]⟩):=by
 have hk:=PA U;unfold js;by_cases k1:c.kind=1\/c.kind=2
 ·rw[aA k1];rcases Qm (c:=c) (d:=⟨m,du,[]⟩) h with⟨e,he,av⟩|⟨dir,s, -, -, -,af,J,av⟩
  ·rw[av];exact .err _ _ he
  ·rw[av];exact .put _ iV af J rfl
 rw[aj k1];by_cases k3:c.kind=3
 ·rw[aA k3];rcases PR (c:=c) (d:=⟨m,du,[]⟩) h (Qa U k3)with⟨e,he,av⟩|⟨id, -, -,af,J,av⟩
  ·rw[av];exact .err _ _ he
  ·rw[av];exact .put _ iV af J rfl
 rw[aj k3];by_cases k4:c.kind=4
 ·rw[aA k4];unfold D4;split
  ·exact .err _ _ l9
  ·split
   ·split
    ·exact .err _ _ l9
    ·exact .lO _ _ rfl rfl rfl rfl λ_=>rfl
   ·rename_i h;exact .err _ _ h
 rw[aj k4];by_cases K:c.kind=5
 ·rw[aA K];rcases PV (c:=c) (d:=⟨m,du,[]⟩) h with⟨e,he,av⟩|⟨id,dir,s, -, -, -, -, -, -, -,af,J,av⟩
  ·rw[av];exact .err _ _ he
  ·rw[av];exact .put _ iV af J rfl
 rw[aj K];by_cases O:c.kind=6
 ·rw[aA O];rcases PK (c:=c) (d:=⟨m,du,[]⟩) h with⟨e,he,av⟩|⟨id,s, -, -, -,af,J,av⟩
  ·rw[av];exact .err _ _ he
  ·rw[av];exact .put _ iV af J rfl
 rw[aj O];by_cases T:c.kind=7
 ·rw[aA T];unfold Ft;split
  ·exact .err _ _ l9
  ·split
   ·split
    ·exact .lO _ _ rfl rfl rfl rfl λ_=>rfl
    ·exact .err _ _ l9
   ·rename_i h;exact .err _ _ h
 rw[aj T];by_cases V:c.kind=8
 ·rw[aA V];unfold D5;split
  ·exact .err _ _ l9
  ·exact .lO _ _ rfl rfl rfl rfl λh=>iV
 rw[aj V];by_cases Z:c.kind=9
 ·rw[aA Z];unfold D6;split
  ·exact .err _ _ l9
  ·exact .lO _ _ rfl rfl rfl rfl λh=>iV
 rw[aj Z];by_cases I:c.kind=10
 ·rw[aA I];unfold D1;split
  ·split
   ·split
    ·exact .err _ _ l9
    ·exact .lO _ _ rfl rfl rfl rfl λh=>iV
   ·exact .err _ _ l9
  ·rename_i h;exact .err _ _ h
 rw[aj I];by_cases z:c.kind=11
 ·rw[aA z];unfold D7;split
  ·exact .err _ _ l9
  ·exact .lO _ _ rfl rfl rfl rfl λh=>iV
 rw[aj z];by_cases IG:c.kind=12
 ·rw[aA IG];exact .lO _ _ rfl rfl rfl rfl λ_=>rfl
 rw[aj IG];rcases aBw (c:=c) (d:=⟨m,du,[]⟩)with⟨e,he,av⟩|⟨l,az,mq,av⟩
 ·rw[av];exact .err _ _ he
 ·rw[av];exact .merge l iV az mq
inductive DC (m:c0) (c:b8):c0×nn×List aX->Prop
 |err (e:Int) (he:e≠0):DC m c (m,ED e,[])
 |put (o:aX) (hk:c.kind=1\/c.kind=2\/c.kind=3\/c.kind=5\/c.kind=6) (af:(gv m).2=0) (aD:b0 o=true) (aF:o.at_=⟨m.seen+1,m.rep⟩):DC m c (Jq m<|we m o,du,[o])
 |lO (ir:c0) (a:nn) (aF:a.err=0) (h1:ir.log=m.log) (h2:ir.seen=m.seen) (h3:ir.rep=m.rep) (h4:(c.kind=4\/c.kind=7\/c.kind=12)->ir=m):DC m c (ir,a,[])
 |merge (l:List aX) (hk:c.kind=13) (az:iJ c.data=some l) (au:m.log.entries.length+(gq m.log [] l).length<=200):
   DC m c (if gq m.log [] l=[]then CS m l else Jq m (CS m l),{du with n:=((gq m.log [] l).length:Int)},gq m.log [] l)
theorem Kw{m:c0}(h:fk m)(c:b8):DC m c (er m c):=by
 unfold er;split
 ·exact .err 180 l9
 ·rename_i J;have hs:=aR0 h<|by simpa using J
  generalize js c ⟨m,du,[]⟩=r at hs ⊢;cases hs with
  |err e d he=>rw[aj he];exact .err e he
  |put o hk af K U=>exact .put o hk af K U
  |lO O a U h1 h2 h3 h4=>exact .lO O a U h1 h2 h3 h4
  |merge l hk T J=>
   have hm:=DC.merge (m:=m) (c:=c) l hk T J;rw[aA rfl];split
   ·grind
   ·rename_i e;rw[aj e]at hm;exact hm
theorem aOd{a:kX}:rv g.entries a=false↔∀x∈dK g,x.at_≠a:=by
 grind [kX,rv,dK]
theorem Hj(g:fC):(dK g).length=g.entries.length:=by rw[dK,cv]
theorem Qd(h:Good g){o:aX}(U:b0 o=true)(af:∀x∈dK g,x.at_≠o.at_)(hl:g.entries.length<200):dK (fc g o)=tT o (dK g):=by
 rcases(BJ h o).2 with⟨-, -,e|⟨x,J,e⟩|e⟩|⟨e, -, -⟩
 ·rw[U]at e;cases e
 ·exact absurd e<|af x J
 ·rw[Hj]at e;omega
 ·exact e
theorem aMg(l:List aX):∀{g:fC},Good g->(∀o∈l,b0 o=true)->l.Pairwise (λa b=>a.at_≠b.at_)->(∀o∈l,∀x∈dK g,x.at_≠o.at_)->g.entries.length+l.length<=200->
  (∀x,x∈dK (eN g l)↔x∈dK g\/x∈l)/\(eN g l).entries.length=g.entries.length+l.length:=by
 induction l with
 |nil=>grind [eN]
 |cons o l T=>
  intro g K O ad af hl;rw[cg]at hl;rw[List.pairwise_cons]at ad;have e:=Qd K (O o kk) (af o kk) iV
  have el:(fc g o).entries.length=g.entries.length+1:=by rw[<-Hj,e,Pd,Hj]
  obtain⟨i1,i2⟩:=T (BJ K o).1 (λx J=>O x<|lU _ J) ad.2 (λx J y U=>by
   rw[e]at U;rcases Bz.1 U with rfl|U
   ·exact ad.1 x J
   grind) iV
  refine⟨λx=>?_,by rw[eN,i2,el,cg];omega⟩
  rw[eN,i1,e,Bz,cU];constructor
  ·rintro((h|h)|h)
   ·exact .inr<|.inl h
   ·exact .inl h
   ·exact .inr<|.inr h
  ·rintro(h|h|h)
   ·exact .inl<|.inr h
   ·exact .inl<|.inl h
   ·exact .inr h
theorem aLO(g:fC):∀(l acc:List aX),acc.Pairwise (λa b=>a.at_≠b.at_)->(∀o∈acc,∀x∈dK g,x.at_≠o.at_)->(gq g acc l).Pairwise (λa b=>a.at_≠b.at_)/\(∀o∈gq g acc l,∀x∈dK g,x.at_≠o.at_):=by
 intro l;induction l with
 |nil=>exact λacc h1 h2=>⟨h1,h2⟩
 |cons o l U=>
  intro acc h1 h2;rw[gq];split
  ·rename_i J;simp only[cV,sB]at J;have af:=aOd.1 J.1;grind
  ·exact U _ h1 h2
theorem aP5{l:List aX}{o:aX}(h:∀x∈l,lK o.at_ x.at_=false):tT o l=l++[o]:=by
 have h1:k9 o l=l:=by
  have:=aHT (λx=> !lK o.at_ x.at_) l [] (λx J=>kr) (λx J=>kr)
  rwa[cA]at this
 have h2:qM o l=[]:=by
  have e:=bU List.length<|y6 o l;simp_all
 rw[tT,h1,h2]
theorem GW{m:c0}(h:fk m){o:aX}(af:(gv m).2=0)(K:b0 o=true)(O:o.at_=⟨m.seen+1,m.rep⟩):(we m o).log.nodes=dX m.log.nodes o:=by
 have U:∀x∈dK m.log,lK o.at_ x.at_=false:=λx J=>by
  have:=h.tY x J;rw[aL9,O];simp;omega
 show(fc m.log o).nodes=_;rw[QG (BJ h.n4 o).1,(Qd h.n4 K (λx J e=>by have:=h.tY x J;grind) ((z1 af).2.2.2.2.2)),aP5 U,u0,<-QG h.n4]
 rfl
theorem aMn(l):∀(k) (id x),x∈ll l k id->∃n∈l,n.parent=x:=by
 intro k;induction k with
 |zero=>intro id x h;simp[ll]at h
 |succ k U=>
  intro id x h;rw[ll]at h;cases J:fe l id with
  |none=>rw[J]at h;simp at h
  |some n=>
   rw[J]at h;simp only at h;split at h
   ·simp at h
   ·rcases cU.1 h with rfl|h
    ·exact⟨n,(BI J).1,rfl⟩
    ·exact U _ _ h
theorem aP3{y:Int}(J:fV x=true)(h:j3 x<=q)(U:fV y=true)(h2:q<j3 y):x<y:=by
 unfold j3 at h h2;rw[aA J]at h;rw[aA U]at h2;omega
theorem aML{m:c0}(h:fk m){o:aX}(hk:o.kind=1)(V:b0 o=true)(Z:fV o.node=true)(bZ:j3 o.node=m.seen+1)(ad:j3 o.parent<=m.seen):
  dX m.log.nodes o=m.log.nodes++[⟨o.node,o.parent,o.name,o.at_,[],nN⟩]:=by
 have U:=h.nodes;obtain⟨l,hl⟩:∃l,l=m.log.nodes:=⟨_,rfl⟩;rw[<-hl]at U ⊢;have I:=λn af=>aP3 (BP U.l0 af) (U.de n af).id Z iV
 have K:fe l o.node=none:=by
  unfold fe;grind
 have z:refused l o=false:=by
  unfold refused;rw[U.l0.cp,V,hk];simp only[Bool.not_true,Bool.false_or,qQ,sH];unfold uP;rw[Bool.or_eq_false_iff];refine⟨kr,?_⟩
  rw[List.any_eq_false];intro x J;simp only[gU];rintro rfl;obtain⟨n,af,e⟩:=aMn l _ _ _ J;have:=(U.de n af).par;rw[e]at this;omega
 rw[wO z];have O:je l o=⟨o.node,o.parent,o.name,o.at_,[],nN⟩:=by
  rw[Li hk,K];unfold pM;rw[K];rfl
 rw[O];have T:=by
  have:=aL8 (B:=[]) I λ_ J=>by cases J
  rwa[cA]at this
 have jG:upto l o.node=l.length:=by
  unfold upto hq;rw[K,T];rfl
 exact PY _ (by show l=l.take (pos l o.node);rw[T,eG])<|by show[]=l.drop (upto l o.node);rw[jG,oy]
theorem aQv(s)(n)(m):ht s (hU s n m)=some n:=by
 induction m<;>grind [hU,ht]
theorem aBu{s t:ag}(h:s≠t)(n)(m):ht t (hU s n m)=ht t m:=by
 induction m with
 |nil=>simp[hU,ht,h]
 |cons p m J=>
  obtain⟨k,x⟩:=p;unfold hU;by_cases hk:k=s
  ·rw[aA hk,ht,ht,aj h,aj kr]
  ·rw[aj hk,ht,ht,J]
theorem aCf(l:List aE)(n:aE)(dir:Int):fz (l++[n]) dir=mi dir (fz l dir) n:=by simp[fz]
theorem aMQ{l:List aE}{n:aE}{dir:Int}(J:cp (l++[n])=true)(U:cp l=true)(ad:n.parent=dir)(hm:o8 n.fJ.c n.fJ.r=true)(h:fx l dir n.name=none):fx (l++[n]) dir n.name=some n:=by
 unfold fx at h ⊢;rw[aA J,aCf];rw[aA U]at h;unfold mi pI;rw[aA kr]
 unfold rQ;rw[h];exact aQv _ _ _
theorem OF{l:List aE}{n:aE}{dir:Int}{s:ag}(U:cp (l++[n])=true)(K:cp l=true)(h:¬(n.parent=dir/\n.name=s)):fx (l++[n]) dir s=fx l dir s:=by
 unfold fx;rw[aA U,aCf];unfold mi;split
 ·rename_i hi;have J:=λe=>h ⟨(by simp[pI]at hi;exact hi.1),e⟩
  unfold rQ;split
  ·exact aBu J _ _
  ·split
   ·rfl
   ·exact aBu J _ _
 ·rfl
theorem aLP(l:List aE)(b:List ag):∀(a:List ag) (x:Int),iG l x (a++b)=if(iG l x a).2=0 then iG l (iG l x a).1 b else iG l x a:=by
 intro a;induction a<;>grind [ju,iG,iN,fx]
theorem aLf{l J:List aE}(hs:∀(x) (t) (n),fx l x t=some n->∃U,fx J x t=some U/\U.id=n.id):∀(names) (x d),iG l x names=(d,0)->iG J x names=(d,0):=by
 intro names;induction names<;>grind [iG,fx]
theorem OG{l:List aE}{dir:Int}{s:ag}(h:iQ l p=(dir,s,0)):∃J,gB p=some (J++[s])/\fp l J=(dir,0)/\dm dir=true:=by
 unfold iQ at h;split at h
 ·cases h
 ·cases h
 ·rename_i x xs af;split at h
  ·split at h
   ·rename_i hd;cases h;exact⟨(x::xs).dropLast,by rw[af,List.dropLast_concat_getLast],kr,hd⟩
   ·cases h
  grind
def w3(m:c0)(c:b8)(dir:Int)(s:ag):aE:=⟨o0 (m.seen+1) m.rep<|decide (c.kind=1),dir,s,⟨m.seen+1,m.rep⟩,[],nN⟩
structure Made (m:c0) (c:b8) (dir:Int) (s:ag):Prop where
 aM3:er m c=(Jq m (we m<|B1 m c dir s),du,[B1 m c dir s])
 cpx:rT c=true
 root:c.path≠[47]
 aMr:iQ m.log.nodes c.path=(dir,s,0)
 none_:fx m.log.nodes dir s=none
 nodes:(we m (B1 m c dir s)).log.nodes=m.log.nodes++[w3 m c dir s]
 new:∀n∈m.log.nodes,n.id≠o0 (m.seen+1) m.rep (decide<|c.kind=1)/\n.parent≠o0 (m.seen+1) m.rep (decide<|c.kind=1)
 ne:dir≠o0 (m.seen+1) m.rep (decide<|c.kind=1)
 aMR:cp (m.log.nodes++[w3 m c dir s])=true
 aXb:dm (o0 (m.seen+1) m.rep<|decide (c.kind=1))= !decide (c.kind=1)
 child:fx (m.log.nodes++[w3 m c dir s]) dir s=some (w3 m c dir s)
theorem Zb{m:c0}{c:b8}(aw:(er m c).2.1.err=0):rT c=true/\(js c ⟨m,du,[]⟩).1=0:=by
 unfold er at aw;split at aw
 ·cases aw
 ·split at aw
  ·grind
  ·rename_i hw;exact absurd aw hw
theorem aMH{m:c0}(h:fk m){c:b8}(hk:c.kind=1\/c.kind=2)(aw:(er m c).2.1.err=0):∃dir s,Made m c dir s:=by
 obtain⟨T,hw⟩:=Zb aw;have V:js c ⟨m,du,[]⟩=zW c ⟨m,du,[]⟩:=by unfold js;rw[aA hk]
 rw[V]at hw;rcases Qm (c:=c) (d:=⟨m,du,[]⟩) h with⟨e,he,av⟩|⟨dir,s,av,al,O,U,K,Z⟩
 ·rw[av]at hw;exact absurd hw he
 simp only at al O U K Z;obtain⟨eE,fh,ib,I,z,n6⟩:=z1 U;obtain⟨i1,i2,i3,i4⟩:=aBH (d:=decide<|c.kind=1) (show 1<=m.seen+1 by omega) (show m.seen+1<=1048576 by omega) I z
 obtain⟨c3,a2,a3⟩:=Qg h.nodes h.seen al;have J:(we m (B1 m c dir s)).log.nodes=m.log.nodes++[w3 m c dir s]:=by
  rw[GW h U K rfl,aML h rfl K i1 i2 a2];rfl
 have L2:cp (m.log.nodes++[w3 m c dir s])=true:=by
  rw[<-J,GW h U K rfl,KV,h.nodes.l0.cp]
 refine⟨dir,s,?_,T,av,al,O,J,λn af=>?_,λe=>?_,L2,?_,?_⟩
 ·unfold er;rw[aj (by rw[T];simp),V,Z]
  rfl
 ·have q:=h.nodes.de n af;have aP:=q.id;have aR:=q.par;grind
 ·rw[e,i2]at a2;omega
 ·unfold dm;rw[i1,i4];have:128<=o0 (m.seen+1) m.rep (decide<|c.kind=1):=(Bg.1 i1).1;rw[cQ,cQ];rfl
 ·exact aMQ (n:=w3 m c dir s) L2 h.nodes.l0.cp rfl (by rw[vf];exact⟨by simp only[w3];omega,by simp only[w3];omega,I,z⟩) O
def xA(g:aE->aE)(m:List (ag×aE)):List (ag×aE):=m.map λp=>(p.1,g p.2)
section
variable {g:aE->aE} (af:∀n,(g n).name=n.name) (ad:∀n,(g n).parent=n.parent) (hm:∀n,(g n).fJ=n.fJ)
theorem aBt(s)(m):ht s (xA g m)=(ht s m).map g:=by
 induction m with
 |nil=>rfl
 |cons p m J=>
  obtain⟨k,x⟩:=p;show ht s ((k,g x)::xA g m)=_;rw[ht,ht];split
  ·rfl
  ·exact J
theorem aCg(s)(n)(m):hU s (g n) (xA g m)=xA g (hU s n m):=by
 induction m with
 |nil=>rfl
 |cons p m J=>
  obtain⟨k,x⟩:=p;show hU s (g n) ((k,g x)::xA g m)=_;rw[hU,hU];split
  ·rfl
  ·rw[J];rfl
include af hm in
theorem aRb(n:aE)(m:List (ag×aE)):rQ (xA g m) (g n)=xA g (rQ m n):=by
 unfold rQ;rw[af,aBt];cases ht n.name m with
 |none=>exact aCg _ _ _
 |some o=>
  simp only[wC];rw[hm,hm];split
  ·rfl
  ·exact aCg _ _ _
include af ad hm in
theorem aRB(dir:Int)(l:List aE):fz (l.map g) dir=xA g (fz l dir):=by
 have key:∀(l:List aE) (m:List (ag×aE)),(l.map g).foldl (mi dir) (xA g m)=xA g (l.foldl (mi dir) m):=by
  intro l;induction l with
  |nil=>exact λm=>rfl
  |cons n l J=>
   intro m;rw[dz,mG,mG,<-J];congr 1;unfold mi pI;rw[ad,hm];split
   ·exact aRb af hm n m
   ·rfl
 exact key l []
include af ad hm in
theorem aLg(l:List aE)(J:cp (l.map g)=cp l)(dir:Int)(s:ag):fx (l.map g) dir s=(fx l dir s).map g:=by
 unfold fx;rw[J,aRB af ad hm,aBt];split<;>rfl
end
def ss(o:aX)(n:aE):aE:=if n.id=o.node then{n with data:=o.data,wrote:=o.at_}else n
theorem Wc{l:List aE}(K:mg l){o:aX}(hk:o.kind=2)(V:b0 o=true)(an:∃n∈l,n.id=o.node):dX l o=l.map (ss o)/\refused l o=false:=by
 have O:refused l o=false:=by
  unfold refused;rw[K.cp,V,hk];rfl
 refine⟨?_,O⟩;rw[wO O];obtain⟨A,B,U,Z,EB,EC,⟨e,cH⟩|⟨n,af,e, -⟩⟩:=KK K.cp o.node
 ·grind
 ·have I:fe l o.node=some n:=by rw[e];exact DM U af
  have z:je l o=ss o n:=by
   unfold je pM ss;rw[I,hk,aA af];rfl
  have T:(ss o n).id=o.node:=by unfold ss;rw[aA af];exact af
  rw[z,e,Pc (by rw[T];exact U) (by rw[T];exact af),nQ,dz]
  have k1:A.map (ss o)=A:=by
   conv=>rhs;rw[<-List.map_id A]
   refine List.map_congr_left λx J=>?_
   have:=U x J;unfold ss;rw[aj iV];rfl
  have k2:B.map (ss o)=B:=by
   conv=>rhs;rw[<-List.map_id B]
   refine List.map_congr_left λx J=>?_
   have:=Z x J;unfold ss;rw[aj iV];rfl
  rw[k1,k2]
theorem NR(o)(n):(ss o n).id=n.id/\(ss o n).name=n.name/\(ss o n).parent=n.parent/\(ss o n).fJ=n.fJ:=by
 unfold ss;split<;>exact⟨rfl,rfl,rfl,rfl⟩
structure gV (t:fl) (n:Nat) (has:Nat->List Int):Prop where
 xc:t.held.Pairwise λa b=>a.lock≠b.lock
 qg:∀(k:Int) (j:Int),(⟨k,j⟩:dx)∈t.held↔∃i:Nat,j=(i:Int)/\i<n/\k∈has i
 uh:∀i,(has i).Nodup
 xU:t.waits.Pairwise λa b=>a.aU≠b.aU
 sr:∀w∈t.waits,∃i:Nat,w.aU=(i:Int)/\i<n/\w.lock∉has i/\∃h∈t.held,h.lock=w.lock
theorem gV.one{t:fl}{has:Nat->List Int}(h:gV t n has)(J:(⟨k,a⟩)∈t.held)(U:(⟨k,b⟩)∈t.held):a=b:=by
 have key:∀l:List dx,(l.Pairwise λa b=>a.lock≠b.lock)->(⟨k,a⟩)∈l->(⟨k,b⟩)∈l->a=b:=by
  intro l;induction l with
  |nil=>intro _ h;cases h
  |cons x l K=>
   intro ad h1 h2;rw[List.pairwise_cons]at ad;rcases cU.1 h1 with av|m1<;>rcases cU.1 h2 with al|m2
   ·rw[<-av]at al;exact(dx.mk.inj al).2.symm
   ·subst av;exact absurd rfl<|ad.1 ⟨k,b⟩ m2
   ·subst al;exact absurd rfl<|ad.1 ⟨k,a⟩ m1
   ·exact K ad.2 m1 m2
 exact key _ h.xc J U
theorem gV.Ss{t:fl}{has:Nat->List Int}(h:gV t n has){i:Nat}(hi:i<n)(J:j<n)(h1:k∈has i)(h2:k∈has j):i=j:=by
 have:=h.one ((h.qg k i).2 ⟨i,rfl,hi,h1⟩)<|(h.qg k j).2 ⟨j,rfl,J,h2⟩;omega
theorem YT{l:List dx}{j:Int}(h:w0 l k=some j):(⟨k,j⟩)∈l:=by
 obtain⟨x,J,rfl⟩:=hC.1 h;have h2:=List.find?_some J;simp at h2;rw[<-h2];exact(sC J)
theorem aPt{l:List dx}(h:w0 l k=none):∀x∈l,x.lock≠k:=by
 unfold w0 at h;rw[Option.map_eq_none_iff,wF]at h;intro x J e;exact h x J<|cD e
theorem P6{l:List dx}{i:Int}(h:vc l i=none):∀x∈l,x.aU≠i:=by
 unfold vc at h;rw[Option.map_eq_none_iff,wF]at h;intro x J e;exact h x J<|cD e
theorem YN:gV FY 0 λ_=>[]:=⟨.nil,λk j=>⟨λh=>by simp[FY]at h,fun⟨i,_,h,_⟩=>absurd h<|Nat.not_lt_zero _⟩,λ_=>List.nodup_nil,.nil,λw h=>by simp[FY]at h⟩
theorem gV.start{t:fl}{has:Nat->List Int}(h:gV t n has)(af:has n=[]):gV t (n+1) has where
 xc:=h.xc
 qg:=λk j=>by
  rw[h.qg k j];constructor
  ·rintro⟨i,e,hi,hk⟩;exact⟨i,e,iV,hk⟩
  ·rintro⟨i,e,hi,hk⟩;refine⟨i,e,?_,hk⟩;by_cases al:i=n
   ·subst al;rw[af]at hk;cases hk
   ·omega
 uh:=h.uh
 xU:=h.xU
 sr:=λw hw=>by
  obtain⟨i,e,hi,h1,h2⟩:=h.sr w hw;exact⟨i,e,iV,h1,h2⟩
def kY(has:Nat->List Int)(i:Nat)(l:List Int):Nat->List Int:=λj=>if j=i then l else has j
theorem mb(has)(i)(l):kY has i l i=l:=aA rfl
theorem j7(has){i:Nat}(h:j≠i)(l):kY has i l j=has j:=aj h
theorem gV.take{t:fl}{has:Nat->List Int}(h:gV t n has){i:Nat}(hi:i<n)(hw:vc t.waits i=none)(V:w0 t.held k=none):gV {t with held:=t.held++[⟨k,i⟩]} n (kY has i<|has i++[k]):=by
 have Z:=aPt V;have hk:∀j,j<n->k∉has j:=λj I hk=>Z _ ((h.qg k j).2 ⟨j,rfl,I,hk⟩) rfl
 refine⟨?_,λk' j=>?_,λj=>?_,h.xU,λw T=>?_⟩
 ·rw[List.pairwise_append];exact⟨h.xc,List.pairwise_singleton _ _,λa z b aa=>kr⟩
 ·simp only[e4,dF];constructor
  ·rintro(h1|h1)
   ·obtain⟨K,e,O,U⟩:=(h.qg k' j).1 h1;refine⟨K,e,O,?_⟩;by_cases al:K=i
    ·subst al;rw[mb];exact List.mem_append_left _ U
    ·rw[j7 _ al];exact U
   ·cases h1;exact⟨i,rfl,hi,by rw[mb];simp⟩
  ·rintro⟨K,e,O,U⟩;by_cases al:K=i
   ·subst al;rw[mb,e4,dF]at U;rcases U with U|rfl
    ·exact .inl<|(h.qg k' j).2 ⟨K,e,O,U⟩
    ·exact .inr<|by rw[e]
   ·rw[j7 _ al]at U;exact .inl<|(h.qg k' j).2 ⟨K,e,O,U⟩
 ·by_cases al:j=i
  ·subst al;rw[mb,List.nodup_append];exact⟨h.uh j,kk,λa z b aa e=>kr⟩
  ·rw[j7 _ al];exact h.uh j
 ·obtain⟨K,e,O,h1,x,J,h2⟩:=h.sr w T;exact⟨K,e,O,by rw[j7 _ (λal=>P6 hw w T<|by rw[e,al])];exact h1,x,List.mem_append_left _ J,h2⟩
theorem gV.wait{t:fl}{has:Nat->List Int}(h:gV t n has){i:Nat}(hi:i<n)(hw:vc t.waits i=none)(hk:k∉has i){j:Int}(K:w0 t.held k=some j):gV {t with waits:=t.waits++[⟨k,i⟩]} n has:=by
 refine⟨h.xc,h.qg,h.uh,?_,λw J=>?_⟩
 ·rw[List.pairwise_append];exact⟨h.xU,List.pairwise_singleton _ _,λa O b U=>by rw[dF]at U;subst U;exact P6 hw a O⟩
 ·rw[e4,dF]at J;rcases J with J|rfl
  ·exact h.sr w J
  ·exact⟨i,rfl,hi,hk,_,YT K,rfl⟩
def w2(has:Nat->List Int)(i:Nat)(k:Int):Option Int->Nat->List Int
 |none=>kY has i<|(has i).filter λx=> !decide (x=k)
 |some j=>kY (kY has i ((has i).filter λx=> !decide (x=k))) j.toNat<|has j.toNat++[k]
theorem aM9{l:List dx}{x:dx}(ad:l.Pairwise λa b=>a.lock≠b.lock)(J:x∈l):∀y,y∈l.erase x↔y∈l/\y.lock≠x.lock:=by
 induction l with
 |nil=>cases J
 |cons a l O=>
  rw[List.pairwise_cons]at ad;intro y;by_cases e:a=x
  ·subst e;rw[List.erase_cons_head];constructor
   ·intro U;exact⟨lU _ U,λe=>ad.1 y U e.symm⟩
   ·rintro⟨U,T⟩;rcases cU.1 U with rfl|U
    ·exact absurd rfl T
    ·exact U
  ·have K:=(cU.1 J).resolve_left λh=>e h.symm
   rw[List.erase_cons_tail kr,cU,O ad.2 K y,cU]
   constructor
   ·rintro(rfl|⟨h1,h2⟩)
    ·exact⟨.inl rfl,ad.1 x K⟩
    ·exact⟨.inr h1,h2⟩
   ·rintro⟨rfl|h1,h2⟩
    ·exact .inl rfl
    ·exact .inr ⟨h1,h2⟩
theorem YU{l:List dx}{x:dx}(ad:l.Pairwise λa b=>a.aU≠b.aU)(J:x∈l):∀y,y∈l.erase x↔y∈l/\y.aU≠x.aU:=by
 induction l with
 |nil=>cases J
 |cons a l O=>
  rw[List.pairwise_cons]at ad;intro y;by_cases e:a=x
  ·subst e;rw[List.erase_cons_head];constructor
   ·intro U;exact⟨lU _ U,λe=>ad.1 y U e.symm⟩
   ·rintro⟨U,T⟩;rcases cU.1 U with rfl|U
    ·exact absurd rfl T
    ·exact U
  ·have K:=(cU.1 J).resolve_left λh=>e h.symm
   rw[List.erase_cons_tail kr,cU,O ad.2 K y,cU]
   constructor
   ·rintro(rfl|⟨h1,h2⟩)
    ·exact⟨.inl rfl,ad.1 x K⟩
    ·exact⟨.inr h1,h2⟩
   ·rintro⟨rfl|h1,h2⟩
    ·exact .inl rfl
    ·exact .inr ⟨h1,h2⟩
theorem I1{l:List Int}:x∈l.filter (λx=> !decide (x=k))↔x∈l/\x≠k:=kk
theorem gV.free{t:fl}{has:Nat->List Int}(h:gV t n has){i:Nat}(hi:i<n)(hk:k∈has i):
  gV (fy t i k).1 n (w2 has i k (fy t i k).2)/\∀j,(fy t i k).2=some j->∃U:Nat,j=(U:Int)/\U<n/\U≠i/\(⟨k,j⟩:dx)∈t.waits:=by
 have hm:=(h.qg k i).2 ⟨i,rfl,hi,hk⟩;have L6:=aM9 h.xc hm;have I:∀j,j<n->j≠i->k∉has j:=λj aq T K=>T<|h.Ss aq hi K hk
 have Mf:∀(k') (j),(⟨k',j⟩)∈t.held.erase ⟨k,i⟩↔∃U:Nat,j=(U:Int)/\U<n/\k'∈kY has i ((has i).filter λx=> !decide (x=k)) U:=λk' j=>by
  rw[L6,h.qg];constructor
  ·rintro⟨⟨U,e,O,K⟩,T⟩;refine⟨U,e,O,?_⟩;by_cases al:U=i
   ·subst al;rw[mb,I1];exact⟨K,T⟩
   ·rw[j7 _ al];exact K
  ·rintro⟨U,e,O,K⟩;by_cases al:U=i
   ·subst al;rw[mb,I1]at K;exact⟨⟨U,e,O,K.1⟩,K.2⟩
   ·rw[j7 _ al]at K;exact⟨⟨U,e,O,K⟩,λaY=>I U O al (by have bu:k'=k:=aY;rw[<-bu];exact K)⟩
 have z:∀j,(kY has i ((has i).filter λx=> !decide (x=k)) j).Nodup:=λj=>by
  by_cases al:j=i
  ·subst al;rw[mb];exact(h.uh j).filter _
  ·rw[j7 _ al];exact h.uh j
 unfold fy;rw[aA (by simpa using hm)]
 cases ax:t.waits.find? λw=>decide (w.lock=k)with
 |none=>
  refine⟨⟨h.xc.sublist<|List.erase_sublist,Mf,z,h.xU,λw hw=>?_⟩,λj e=>by cases e⟩
  obtain⟨U,e,O,h1,x,J,h2⟩:=h.sr w hw;have T:=λe=>wF.1 ax w hw<|cD e
  refine⟨U,e,O,?_,x,(L6 x).2 ⟨J,by rw[h2];exact T⟩,h2⟩
  show w.lock∉kY has i _ U;by_cases al:U=i
  ·subst al;rw[mb,I1];exact λh=>h1 h.1
  ·rw[j7 _ al];exact h1
 |some w=>
  have uq:=sC ax;have xo:=by simpa using List.find?_some ax
  obtain⟨U,e,O,h1,x,J,h2⟩:=h.sr w uq;have T:U≠i:=λal=>h1<|by rw[xo,al];exact hk
  have aA9:w=⟨k,U⟩:=by rw[<-xo,<-e]
  have aOV:w.aU.toNat=U:=by rw[e];rfl
  simp only[w2,aOV];have H9:=I U O T;refine⟨⟨?_,λk' j=>?_,λj=>?_,h.xU.sublist<|List.erase_sublist,λv aG=>?_⟩,λj Aa=>?_⟩
  ·rw[List.pairwise_append];refine⟨h.xc.sublist<|List.erase_sublist,List.pairwise_singleton _ _,λa aF b aa=>?_⟩
   rw[dF]at aa;subst aa;rw[xo];exact((L6 a).1 aF).2
  ·rw[e4,dF,Mf];constructor
   ·rintro(⟨V,av,Z,K⟩|av)
    ·refine⟨V,av,Z,?_⟩;by_cases al:V=U
     ·subst al;rw[j7 _ T]at K;rw[mb];exact List.mem_append_left _ K
     ·rw[j7 _ al];exact K
    ·rw[aA9]at av;cases av;exact⟨U,rfl,O,by rw[mb];simp⟩
   ·rintro⟨V,av,Z,K⟩;by_cases al:V=U
    ·subst al;rw[mb,e4,dF]at K;rcases K with K|rfl
     ·exact .inl ⟨V,av,Z,by rw[j7 _ T];exact K⟩
     ·exact .inr<|by rw[aA9,av]
    ·rw[j7 _ al]at K;exact .inl ⟨V,av,Z,K⟩
  ·by_cases al:j=U
   ·subst al;rw[mb,List.nodup_append];exact⟨h.uh j,kk,λa aF b aa e=>by rw[dF]at aa;subst aa;subst e;exact H9 aF⟩
   ·rw[j7 _ al];exact z j
  ·obtain⟨RS,RT⟩:=(YU h.xU uq v).1 aG;obtain⟨V,av,Z,g1,y,aH,g2⟩:=h.sr v RS;have km:V≠U:=λal=>RT<|by rw[av,e,al]
   refine⟨V,av,Z,?_,?_⟩
   ·rw[j7 _ km];by_cases al:V=i
    ·subst al;rw[mb,I1];exact λh=>g1 h.1
    ·rw[j7 _ al];exact g1
   ·by_cases al:v.lock=k
    ·exact⟨w,kk,by rw[xo,al]⟩
    ·exact⟨y,List.mem_append_left _<|(L6 y).2 ⟨aH,by rw[g2];exact al⟩,g2⟩
  ·simp only[Option.some.injEq]at Aa;subst Aa;exact⟨U,e,O,T,by rw[<-xo];exact uq⟩
def Ja(has:Nat->List Int)(g:List dx):Nat->List Int:=g.foldl (λhas h=>kY has h.aU.toNat<|has h.aU.toNat++[h.lock]) has
theorem gV.Hy{i:Nat}(hi:i<n):∀(l:List dx) (s:fl×List dx) (has:Nat->List Int),gV s.1 n has->(l.Pairwise λa b=>a.lock≠b.lock)->(∀k,k∈has i↔(⟨k,i⟩:dx)∈l)->
  ∃g,(oP i l s).2=s.2++g/\gV (oP i l s).1 n (Ja (kY has i []) g)/\(∀h∈g,∃j:Nat,h.aU=(j:Int)/\j<n/\j≠i/\h∈s.1.waits/\h.lock∈has i)/\∀w∈(oP i l s).1.waits,w∈s.1.waits:=by
 intro l;induction l with
 |nil=>
  intro s has h _ hk;have e:=List.eq_nil_iff_forall_not_mem.2 λk O=>by have:=(hk k).1 O;cases this
  refine⟨[],by simp[oP],?_,λh U=>(by cases U),λw hw=>hw⟩
  have:kY has i []=has:=funext λj=>by
   by_cases al:j=i
   ·subst al;rw[mb,e]
   ·rw[j7 _ al]
  rw[this];exact h
 |cons x l z=>
  intro s has h ad hk;rw[List.pairwise_cons]at ad;by_cases J:x.aU=i
  ·have Iy:=(hk x.lock).2<|by rw[<-J];exact List.mem_cons_self
   obtain⟨h1,h2⟩:=h.free hi Iy;have av:w2 has i x.lock (fy s.1 i x.lock).2 i=(has i).filter λy=> !decide (y=x.lock):=by
    cases K:(fy s.1 i x.lock).2 with
    |none=>exact mb _ _ _
    |some j=>
     obtain⟨eW,e, -,T, -⟩:=h2 j K;show kY _ j.toNat _ i=_;rw[j7 _ (by rw[e];simpa using T.symm),mb]
   have V:∀k,k∈w2 has i x.lock (fy s.1 i x.lock).2 i->k∈has i:=λk O=>by rw[av,I1]at O;exact O.1
   have Z:∀k,k∈w2 has i x.lock (fy s.1 i x.lock).2 i↔(⟨k,i⟩)∈l:=λk=>kr
   have I:∀w∈(fy s.1 i x.lock).1.waits,w∈s.1.waits:=λw hw=>by
    unfold fy at hw;split at hw
    ·split at hw
     ·exact hw
     ·exact List.mem_of_mem_erase hw
    ·exact hw
   unfold oP;rw[aA J];cases K:(fy s.1 i x.lock).2 with
   |none=>
    rw[K]at h1 Z V;simp only;obtain⟨g,g1,g2,g3,g4⟩:=z ((fy s.1 i x.lock).1,s.2) _ h1 ad.2 Z;refine⟨g,g1,?_,λh U=>?_,λw hw=>I w<|g4 w hw⟩
    ·have:kY (w2 has i x.lock none) i []=kY has i []:=funext λj=>by
      by_cases al:j=i
      ·subst al;rw[mb,mb]
      ·rw[j7 _ al,j7 _ al];exact j7 _ al _
     rw[this]at g2;exact g2
    ·obtain⟨j,aP,aR,bH,cC,ez⟩:=g3 h U;exact⟨j,aP,aR,bH,I h cC,V _ ez⟩
   |some k=>
    rw[K]at h1 Z V;simp only;obtain⟨j,e,aq,T,yL⟩:=h2 k K;obtain⟨g,g1,g2,g3,g4⟩:=z ((fy s.1 i x.lock).1,s.2++[⟨x.lock,k⟩]) _ h1 ad.2 Z;refine⟨⟨x.lock,k⟩::g,by rw[g1,dr];rfl,?_,λh U=>?_,λw hw=>I w<|g4 w hw⟩
    ·have:kY (w2 has i x.lock<|some k) i []=kY (kY has i []) k.toNat (kY has i [] k.toNat++[x.lock]):=funext λq=>by
      have l3:k.toNat=j:=by rw[e];rfl
      simp only[w2,l3];by_cases al:q=i
      ·subst al;rw[mb,j7 _ (by exact λe=>T e.symm),mb]
      ·rw[j7 _ al];by_cases aY:q=j
       ·subst aY;rw[mb,mb,j7 _ al]
       ·rw[j7 _ aY,j7 _ aY,j7 _ al,j7 _ al]
     rw[this]at g2;exact g2
    ·rcases cU.1 U with rfl|U
     ·exact⟨j,e,aq,T,yL,Iy⟩
     ·obtain⟨rj,aP,aR,bH,cC,ez⟩:=g3 h U;exact⟨rj,aP,aR,bH,I h cC,V _ ez⟩
  ·unfold oP;rw[aj J];refine z s has h ad.2 λk=>?_
   rw[hk,cU];exact⟨λh=>h.resolve_left λe=>J (by rw[<-e]),.inr⟩
theorem gV.drop{t:fl}{has:Nat->List Int}(h:gV t n has){i:Nat}(hi:i<n):
  gV (kH t i).1 n (Ja (kY has i []) (kH t i).2)/\(∀h∈(kH t i).2,∃j:Nat,h.aU=(j:Int)/\j<n/\j≠i/\h∈t.waits/\h.lock∈has i)/\∀w∈(kH t i).1.waits,w∈t.waits/\w.aU≠i:=by
 obtain⟨g,g1,g2,g3,g4⟩:=gV.Hy hi t.held (⟨t.held,t.waits.filter λw=> !decide (w.aU=i)⟩,[]) has (⟨h.xc,h.qg,h.uh,h.xU.sublist List.filter_sublist,λw hw=>h.sr w<|(lV.1 hw).1⟩) h.xc λk=>by
  rw[h.qg];exact⟨λhk=>⟨i,rfl,hi,hk⟩,fun⟨j,e,_,hk⟩=>(show i=j by omega)▸hk⟩
 have e:(kH t i).2=g:=g1;rw[e];refine⟨g2,λh J=>?_,λw hw=>?_⟩
 ·obtain⟨j,aP,U,K,O,T⟩:=g3 h J;exact⟨j,aP,U,K,(lV.1 O).1,T⟩
 ·have:=g4 w hw;simp at this;exact this
structure mJ (es:List (I×I×Nat)) (clock:Nat):Prop where
 de:(es.map (·.2.2)).Nodup
 lt:∀p∈es,p.2.2<clock
theorem mJ.find{es:List (I×I×Nat)}{clock:Nat}(h:mJ es clock){p:I×I×Nat}(ad:p∈es):es.find? (λq=>q.2.2==p.2.2)=some p:=by
 have af:=h.de;clear h;induction es<;>grind
theorem mJ.Zz(h:mJ es clock){p:I×I×Nat}(ad:p∈es)(J:List Nat):Ly clock (J++[p.2.2]) (.map es clock)=⟨.aQ [p.1,p.2.1],True⟩:=by
 simp only[Ly,List.getLast?_append,List.getLast?_singleton,Option.some_or,h.find ad]
theorem mJ.filter(h:mJ es clock)(f:I×I×Nat->Bool):mJ (es.filter f) clock:=
 ⟨List.Nodup.sublist (List.Sublist.map _ List.filter_sublist) h.de,λp ad=>h.lt p (lV.1 ad).1⟩
structure tM (es ps:List (I×I×Nat)):Prop where
 sub:∀p∈ps,p∈es
 de:(ps.map (·.2.2)).Nodup
theorem tM.step(h:tM es ps){p:I×I×Nat}(ad:p∈leftOf es (ps.map (·.2.2))):tM es (ps++[p])/\p∈es:=by
 obtain⟨h1,h2⟩:=lV.1 ad;refine⟨⟨λq aJ=>?_,?_⟩,h1⟩
 ·grind [e4,dF,List,Nat,tM,leftOf]
 grind [e4,dF,List,Nat,tM,leftOf,List.nodup_append,dz,hj,sB]
theorem aBE{β:Type}(f:α->β){l:List α}(h:(l.map f).Nodup):l.Nodup:=by
 induction l<;>grind
theorem aQM[DecidableEq α]{xs ys:List α}(af:xs.Nodup)(hs:∀x∈xs,x∈ys):xs.length<=ys.length:=by
 induction xs generalizing ys with
 |nil=>exact bW _
 |cons x xs K=>
  rw[u1]at af;have J:=hs x kk
  have h2:∀z∈xs,z∈ys.erase x:=λz U=>(List.mem_erase_of_ne (by rintro rfl;exact af.1 U)).2<|hs z (lU _ U)
  have:=K af.2 h2;grind
theorem tM.len(h:tM es ps):ps.length<=es.length:=by
 have:=aQM (ys:=es.map (·.2.2)) h.de λx J=>by grind [bJ,List,Nat,tM]
 simpa using this
theorem tM.perm(h:tM es ps)(J:mJ es clock)(he:leftOf es (ps.map (·.2.2))=[]):ps.Perm es:=by
 refine(List.perm_ext_iff_of_nodup (aBE _ h.de) (aBE _ J.de)).2 λp=>⟨h.sub p,λad=>?_⟩
 have:p.2.2∈ps.map (·.2.2):=by
  have:=List.filter_eq_nil_iff.1 he p ad;simpa using this
 obtain⟨q,aJ,e⟩:=bJ.1 this;have av:=J.find<|h.sub q aJ;have al:=J.find ad;rw[e]at av;rw[av]at al;cases al;exact aJ
theorem aQh(U:mJ es clock)(i y:Nat)(J:List I->ab->Prop)(H:ab)(T:∀bM G,J bM G->ay G i=.map es clock)(bZ:∀bM G L,J bM G->J bM (G++L))(s4:∀bM G it X,J bM G->H.length<=it->J bM (ar G it X))
  (ji:∀bM p G it B,p∈es->bM.length<es.length->J bM G->H.length<=it->ay G it=B->B.live->sJ prog y [p.1] G (λv K=>v=.bool true/\J (bM++[p.1]) K/\ay K it=B)) (aw:J [] H):
  dp prog 189 [.func (.yield y) [] [],.cptr [.map i]] H (λ_ G=>∃ps:List (I×I×Nat),ps.Perm es/\J (ps.map (·.1)) G):=by
 refine p3 func189 ?_;have hm:=T _ _ aw;refine hH ?_;refine cE (ι:=List (I×I×Nat)×ab) (λs=>[(0,.func (.yield y) [] []),(5,.iter H.length)]) (λs=>s.2) (λs=>tM es s.1/\J (s.1.map (·.1)) s.2/\ay s.2 H.length=.iI i clock (s.1.map (·.2.2)) clock) (λs=>es.length-s.1.length)
  ([],H++[.iI i clock [] clock]) ⟨⟨λp ad=>(by cases ad),kk⟩,bZ _ _ _ aw,vY H _⟩ ?_ rfl ?_
 ·simp[go_sem]
 rintro⟨ps,G⟩ ⟨aW,gP,V⟩;simp only at aW gP V ⊢;have Z:=T _ _ gP;have ak:=dk V trivial;repeat' first|(refine ae ?_;simp only[go_sem])|refine ao ?_|fail
 refine⟨H.length,i,clock,ps.map (·.2.2),clock,es,clock,rfl,V,Z,λp ad=>⟨U.lt p ad,U.lt p ad⟩,λhe=>?_,λp ad=>?_⟩
 ·simp only[go_sem];repeat' first|(refine ae ?_;simp only[go_sem])|refine ao ?_|fail
  exact⟨ps,aW.perm U he,gP⟩
 ·obtain⟨z,xh⟩:=aW.step ad;obtain⟨B,O⟩:∃B,B=bE.iI i clock (ps.map (·.2.2)++[p.2.2]) clock:=⟨_,rfl⟩;rw[<-O];have Z7:=s4 _ _ H.length B gP<|bd _;have g1:ay (ar G H.length B) H.length=.iI i clock (ps.map (·.2.2)++[p.2.2]) clock:=by rw[dR ak,O]
  have g2:=T _ _ Z7;have g3:=U.Zz xh<|ps.map (·.2.2);have EY:=z.len;rw[bF,List.length_singleton]at EY;have aH:=ji _ p _ H.length B xh (by rw[cv];omega) Z7 (bd _) (dR ak B)<|by rw[O];trivial
  generalize ar G H.length B=cW at *;simp only[go_sem];refine hH ?_;refine Km aH ?_;rintro v K ⟨rfl,aNW,aOL⟩;simp only[go_sem];repeat' first|(refine ae ?_;simp only[go_sem])|refine ao ?_|fail
  refine⟨(ps++[p],K),⟨z,by simpa using aNW,by simp only;rw[aOL,O];simp⟩,?_,rfl⟩
  have:=z.len;simp only[bF,cg,eg]at this ⊢;omega
theorem aQi(i:Nat)(H:ab)(hi:i<H.length):aM prog 148 [.map i] H (.func (.func 189) [] [.cptr [.map i]]):=by
 refine aZ func148 ?_;refine aW ?_;refine⟨_,_,rfl,?_,rfl⟩;refine .func _ _ _ _ _ rfl rfl fw<|dj (Dj (bd _) nb ?_) fw
 simp only[dF,forall_eq];exact .map _ hi
theorem aBn{A B:bE}(J:ep n A)(U:ep n B):∀(j:Nat) (b:bE),(H++[A,B])[j]?=some b->H[j]?=some b\/ep n b:=λj b K=>by
 grind
structure aCP (H:ab) (es:List (I×I×Nat)) (clock i:Nat) (dD:bE) (bM:List I) (G:ab):Prop where
 pre:∃M,G=H++M
 gb:ay G H.length=.cells 0 [.osl 1 (H.length+1) (bM.length+1) 0 bM.length bM.length]
 aO:ay G (H.length+1)=.cells (bM.length+1) bM
 bo:ay G (H.length+2)=dD
 m:ay G i=.map es clock
 tx:∀k∈bM,∃s:ag,k=.str s
theorem aMx(aD:mJ es clock)(i:Nat)(kM:∀p∈es,∃s:ag,p.1=.str s)(hl:es.length<=1073741824)(H:ab)(hm:ay H i=.map es clock):
  dp prog 219 [.sl true [],.func (.func 189) [] [.cptr [.map i]]] H
   (λr H'=>∃ps:List (I×I×Nat),ps.Perm es/\r=.osl 1 (H.length+1) (ps.length+1) 0 ps.length ps.length/\∃A,ep (H.length+2) A/\H'=H++[A,.cells (ps.length+1)<|ps.map (·.1)]):=by
 refine tU func219 ?_;have Me:=dk hm trivial;refine aW ?_;refine AX H.length 0 1 (by simp only[go_sem];rfl) rfl ?_
 simp only[go_sem];refine G7 [(2,.ref H.length 0 0),(6,.func (.func 189) [] [.cptr [.map i]])] (by simp[go_sem]) ?_
 refine Jc rfl aK λy dD Z=>?_
 have z:dD.live:=by rw[Z];trivial
 rw[dr];have Rr:(H++[bE.cells 0 [.osl 1 (H.length+1) 1 0 0 0],.cells 1 []]).length=H.length+2:=kk
 rw[Rr];refine(aQh aD i y (aCP H es clock i dD) _ (λbM G h=>h.m) (λbM G L h=>⟨let⟨M,e⟩:=h.pre;⟨M++L,by rw[e,dr]⟩,b3 h.gb trivial L,b3 h.aO trivial L,b3 h.bo z L,b3 h.m trivial L,h.tx⟩) (λbM G it X h vI=>?_) (λbM p G it B ad nA h vI bX aNI=>?_) ?_).mono λ_ H' ⟨ps,ad,h⟩=>?_
 ·have aOK:H.length+3<=it:=by simpa[tC]using vI
  exact⟨mZ h.pre iV X,bY h.gb iV X,bY h.aO iV X,bY h.bo iV X,bY h.m iV X,h.tx⟩
 ·have aOK:H.length+3<=it:=by simpa[tC]using vI
  obtain⟨s,hs⟩:=kM p ad;rw[hs];refine JV h.bo Z rfl rfl rfl rfl λU fin Cb xf gK iX=>?_
  have f3:=bC h.bo z;have g3:=gN h.bo z;simp only[wR];refine ud rfl ?_;simp only[go_sem];refine⟨h.bo,?_⟩;obtain⟨O,T⟩:∃O,ar G (H.length+2) U=O:=⟨_,rfl⟩;rw[T];have l4:=dk h.bo z;have hlen:G.length=O.length:=by rw[<-T];simp[ar]
  have a0:=bY h.gb (i:=H.length+2) iV U
  have c3:=bY h.aO (i:=H.length+2) iV U
  have a2:ay O (H.length+2)=U:=by rw[<-T];exact dR l4 U
  have a3:=bY h.m (i:=H.length+2) iV U
  have a4:=bY bX (i:=H.length+2) iV U
  rw[T]at a0 c3 a3 a4;have a5:∃M,O=H++M:=by rw[<-T];exact mZ h.pre iV U
  have j0:(∀e,e=I.str s->e.cells.length=1)=True:=b5 λe he=>by rw[he];rfl
  have jE:((bM.length+1) * 16<=140737488355328)=True:=b5 iV
  clear Z Cb iX;have yf:=λY=>bY a0 (i:=H.length+1) iV Y
  have dV:∀n,ep n (.cells (bM.length+2)<|bM++[I.str s]):=λn x J=>by
   rcases e4.1 J with J|J
   ·obtain⟨t,rfl⟩:=h.tx x J;exact .str _
   ·rw[dF]at J;subst J;exact .str _
  have dd:=dk c3 trivial;have ko:=dk a0 trivial;have dZ:dq [I.osl 1 (H.length+1) (bM.length+1) 0 bM.length bM.length] 0 [.osl 1 (H.length+1) (bM.length+2) 0 (bM.length+1) (bM.length+1)]=[.osl 1 (H.length+1) (bM.length+2) 0 (bM.length+1) (bM.length+1)]:=rfl;refine bP @me ?_;refine⟨bY (bY a2 iV _) iV _,_,[],(cA _).symm,by rw[bc,bc],λj b aq=>?_,rfl,?_,?_⟩
  ·rcases pn (n:=O.length) (b:=.cells 0 [.osl 1 (H.length+1) (bM.length+2) 0 (bM.length+1) (bM.length+1)]) (λx J=>by rw[dF]at J;subst J;exact .osl _ _ _ _ _ _ iV) j b aq with q|q
   ·exact pn (dV _) j b q
   ·exact .inr q
  ·have V:(bM++[I.str s]).length=bM.length+1:=kk
   rw[gK];have td:∀k∈bM++[I.str s],∃s:ag,k=.str s:=λk hk=>by
    rcases e4.1 hk with hk|hk
    ·exact h.tx k hk
    ·rw[dF]at hk;exact⟨s,hk⟩
   refine⟨mZ (mZ (mZ a5 iV _) iV _) iV _,?_,?_,?_,?_,td⟩
   ·rw[V];exact bY (dR (by rw[bc];exact ko) _) iV _
   ·rw[V];exact bY (bY (dR dd _) iV _) iV _
   ·exact dR (by rw[bc,bc,<-hlen];exact l4) _
   ·exact bY (bY (bY a3 iV _) iV _) iV _
  ·exact bY (bY (bY a4 iV _) iV _) iV _
 ·exact⟨⟨_,rfl⟩,nb,nb,nb,b3 hm trivial _,λk hk=>by cases hk⟩
 ·refine .inl ⟨.ready,kk,h.bo.trans Z,λX=>?_⟩
  have K:=bY h.gb (i:=H.length+2) iV X
  have av:=bY h.aO (i:=H.length+2) iV X
  obtain⟨M,al⟩:=mZ (H:=H) h.pre (i:=H.length+2) iV X
  obtain⟨cW,gg⟩:∃cW,ar H' (H.length+2) X=cW:=⟨_,rfl⟩;rw[gg]at K av al ⊢;simp only[go_sem];repeat' first|(refine ae ?_;simp only[go_sem,K])|refine ao ?_|fail
  rw[al,vY]at K;rw[al,F2,cv]at av
  match M,K,av with
  |A::B::L,K,av=>
   simp only[List.getD_cons_zero,List.getD_cons_succ]at K av;subst K;subst av;have aP:ep (H.length+2) (.cells 0 [.osl 1 (H.length+1) ((ps.map (·.1)).length+1) 0 (ps.map (·.1)).length (ps.map (·.1)).length]):=λx J=>by rw[dF]at J;subst J;exact .osl _ _ _ _ _ _ iV
   have aR:ep (H.length+2) (.cells (ps.length+1)<|ps.map (·.1)):=λx J=>by obtain⟨q,aJ,rfl⟩:=bJ.1 J;obtain⟨s,e⟩:=kM q<|ad.mem_iff.1 aJ;rw[e];exact .str _
   exact⟨H++[_,_],L,_,by rw[al,dr];rfl,kk,by simpa using aBn aP aR,.cl _<|.osl _ _ _ _ _ _ kk,ps,ad,rfl,_,aP,rfl⟩
theorem aBz(b:Nat)(m:List (ag×aE)):(fR b m).map (·.2.2)=List.range' b m.length:=by
 induction m generalizing b with
 |nil=>rfl
 |cons p m J=>rw[fR,dz,J,cg,List.range'_succ]
theorem aBB(m:List (ag×aE)):mJ (fR 0 m) m.length where
 de:=by rw[aBz];exact List.nodup_range'
 lt:=λp ad=>by
  have:p.2.2∈(fR 0 m).map (·.2.2):=bJ.2 ⟨p,ad,rfl⟩;rw[aBz]at this;have:=List.mem_range'_1.1 this;omega
theorem aBA(b:Nat)(m:List (ag×aE)):(fR b m).map (·.1)=(m.map (·.1)).map I.str:=by
 induction m generalizing b with
 |nil=>rfl
 |cons p m J=>rw[fR,dz,J];rfl
def Nr:I->ag
 |.str s=>s
 |_=>[]
theorem aQ3{xs:List I}(h:xs.Perm (bM.map I.str)):∃U:List ag,xs=U.map I.str/\U.Perm bM:=by
 refine⟨xs.map Nr,?_,?_⟩
 ·rw[sG];have J:∀x∈xs,(I.str∘Nr) x=x:=λx J=>by
   obtain⟨s, -,rfl⟩:=bJ.1<|h.mem_iff.1 J;rfl
  rw[List.map_congr_left J,List.map_id']
 ·have:=h.map Nr;rw[sG]at this;simpa[Function.comp_def,Nr]using this
theorem aNn(l:List ag):(l.map I.str).flatMap I.cells=l.map I.str:=by rw[Gf];exact(List.map_eq_flatMap ..).symm
def Bv(l:List ag):Prop:=∀s∈l,s.length<=1073741824
def C7(l:List ag)(h:Bv l):List kW:=l.attach.map λs=>⟨s.1,h s.1 s.2⟩
theorem aCp(l:List ag)(h:Bv l):(C7 l h).map (·.1)=l:=by
 unfold C7;rw[sG];show l.attach.map (λs=>s.1)=l
 exact List.attach_map_subtype_val l
theorem aRG{d d':Array kW}(ad:(d.toList.map (·.1)).Perm bM)(h1:Sort.PermIn 0 d.size d d')(h2:Sort.SortedIn (λa b=>lQ a.1 b.1) 0 d.size d'):d'.toList.map (·.1)=qU bM:=by
 obtain⟨av, -,U⟩:=h1;have J:∀(a:Array kW),a.extract 0 a.size=a:=λa=>kk
 rw[J d]at U;rw[<-av,J d']at U;refine aKh ?_<|(U.map _).trans ad;rw[List.pairwise_map,List.pairwise_iff_getElem];intro i j hi K O;have T:i<d'.size:=by simpa using hi
 have V:j<d'.size:=by simpa using K
 have:=h2 i j (bW _) O iV
 simp only[getElem!_pos d' i T,getElem!_pos d' j V]at this;simpa using this
theorem aMW(O:mJ es clock)(i:Nat)(U:∀p∈es,∃s:ag,p.1=.str s)(hl:es.length<=1073741824)(H:ab)(hm:ay H i=.map es clock):
  dp prog 187 [.func (.func 189) [] [.cptr [.map i]]] H
   (λr H'=>∃ps:List (I×I×Nat),ps.Perm es/\r=.osl 1 (H.length+1) (ps.length+1) 0 ps.length ps.length/\∃A,ep (H.length+2) A/\H'=H++[A,.cells (ps.length+1)<|ps.map (·.1)]):=by
 refine tU func187 ?_;refine aW ?_;refine dU (aMx O i U hl H hm) aK ?_;rintro r H' ⟨ps,ad,rfl,A,K,rfl⟩;simp only[go_sem];refine aW ?_;have T:ep (H.length+2) (.cells (ps.length+1)<|ps.map (·.1)):=λx J=>by obtain⟨q,aJ,rfl⟩:=bJ.1 J;obtain⟨s,e⟩:=U q<|ad.mem_iff.1 aJ;rw[e];exact .str _
 exact⟨H++[A,.cells (ps.length+1)<|ps.map (·.1)],[],_,(cA _).symm,kk,by simpa using aBn K T,.cl _<|.osl _ _ _ _ _ _ kk,ps,ad,rfl,A,K,rfl⟩
theorem aQy:Sort.SWO (λa b:kW=>lQ a.1 b.1) where
 irrefl:=λx=>D0.irrefl x.1
 trans:=λx y z=>D0.trans x.1 y.1 z.1
 ntrans:=λx y z=>D0.ntrans x.1 y.1 z.1
theorem aRF(T:mJ es clock)(i:Nat)(hk:es.map (·.1)=bM.map I.str)(hs:Bv bM)(hl:es.length<=1073741824)(H:ab)(hm:ay H i=.map es clock):
  aM prog 147 [.func (.func 189) [] [.cptr [.map i]],.func (.func 149) [] []] H (.sl false<|(qU bM).map I.str):=by
 refine aZ func147 ?_;have V:∀p∈es,∃s:ag,p.1=.str s:=λp ad=>by
  have:p.1∈bM.map I.str:=hk▸bJ.2 ⟨p,ad,rfl⟩;obtain⟨s, -,e⟩:=bJ.1 this;exact⟨s,e.symm⟩
 refine aW ?_;refine dU (aMW T i V hl H hm) aK ?_;rintro r H' ⟨ps,ad,rfl,A,bZ,rfl⟩
 -- the keys, in whatever order
 obtain⟨J,K,O⟩:∃J:List ag,ps.map (·.1)=J.map I.str/\J.Perm bM:=by
  have h1:(ps.map (·.1)).Perm (bM.map I.str):=hk▸ad.map _;exact aQ3 h1
 have U:Bv J:=λs h=>hs s<|O.mem_iff.1 h
 have hlen:ps.length=(C7 J U).toArray.size:=by
  have:=bU List.length K;simp only[cv]at this;simp[C7,this]
 have hd:ps.map (·.1)=p7 (C7 J U).toArray:=by
  unfold p7;rw[K];conv=>lhs;rw[<-aCp J U]
  simp
 rw[hd];have ek:=ad.length_eq;simp only[go_sem];refine aW ?_;refine dU (aMa aQy (λx y=>aMb x.1 y.1) (λa b H=>aLk a.1 b.1 a.2 b.2 H) aK hlen iV _<|show ay (H++[A,.cells (ps.length+1) (p7 (C7 J U).toArray)]) (H.length+1)=_ from F2 H _ 1) aK ?_
 rintro r H' ⟨d',s1,s2,rfl,rfl⟩;have Z:((C7 J U).toArray.toList.map (·.1)).Perm bM:=by rw[List.toList_toArray,aCp J U];exact O
 have z:d'.toList.map (·.1)=qU bM:=aRG Z (by rw[<-hlen];exact s1)<|by rw[<-hlen];exact s2
 simp only[go_sem];refine aW ?_;have av:p7 d'=(qU bM).map I.str:=by rw[<-z,sG];rfl
 have al:ps.length=((qU bM).map I.str).length:=by
  rw[<-av,KR,hlen];exact s1.1.symm
 rw[av];exact uH (cs:=(qU bM).map I.str) (es:=(qU bM).map I.str) (rest:=[]) iV nb (by rw[cA,aNn]) al.symm (λe he=>by obtain⟨x,_,rfl⟩:=bJ.1 he;rfl) (λe he=>by obtain⟨x,_,rfl⟩:=bJ.1 he;exact .str _) rfl
theorem aB8(J:mJ es clock)(i:Nat)(hk:es.map (·.1)=bM.map I.str)(hs:Bv bM)(hl:es.length<=1073741824)(H:ab)(hm:ay H i=.map es clock):
  aM prog 97 [.map i] H (.sl false<|(qU bM).map I.str):=by
 refine aZ func97 ?_;refine aW ?_;refine hY (aQi i H<|dk hm trivial) aK ?_;simp only[go_sem];refine hY (aRF J i hk hs hl H hm) aK ?_;simp only[go_sem];refine aW ?_;exact BG (.sl _ _ λe he=>by obtain⟨x,_,rfl⟩:=bJ.1 he;exact .str _)<|.refl _
theorem Lt(l:List aE)(dir:Int):(fz l dir).length<=l.length:=by
 have h:∀(k:List aE) (m:List (ag×aE)),(k.foldl (mi dir) m).length<=m.length+k.length:=by
  intro k;induction k with
  |nil=>exact λm=>bd _
  |cons x k J=>
   intro m;have h1:=J<|mi dir m x;have hs:∀s (n:aE) (m:List (ag×aE)),(hU s n m).length<=m.length+1:=λs n m=>by
    induction m with
    |nil=>simp[hU]
    |cons q m J=>obtain⟨k,y⟩:=q;unfold hU;split<;>simp;exact J
   have h2:(mi dir m x).length<=m.length+1:=by
    unfold mi rQ;split
    ·split
     ·exact hs _ _ _
     ·split
      ·omega
      ·exact hs _ _ _
    ·omega
   rw[mG,cg];omega
 simpa[fz]using h l []
def tO(l:List aE):Prop:=∀n∈l,n.name.length<=1073741824
theorem S4{l:List aE}(h:tO l)(dir:Int):Bv ((fz l dir).map (·.1)):=λs hs=>by
 obtain⟨p,ad,rfl⟩:=bJ.1 hs;rw[<-(A9 l dir).2 p ad];exact h _ (Jp l dir p ad).1
theorem aMh(b:Bool)(l:List aE)(dir:Int)(hl:l.length<=1073741824)(af:tO l)(H:ab):aM prog 303 [.sl b (l.map ba),.int .i64 dir] H (.sl false<|(yh l dir).map I.str):=by
 refine aZ func303 ?_;unfold yh;cases hs:cp l with
 |false=>
  repeat' first|((first|refine cx (lN _ _) ?_|refine ae ?_);simp only[go_sem,hs])|refine ao ?_|fail
  exact bD<|.sl _ _
 |true=>
  rw[aA rfl];repeat' first|((first|refine cx (lN _ _) ?_|refine ae ?_);simp only[go_sem,hs])|refine ao ?_|fail
  refine dU (P0 b l dir hl H) aK ?_;rintro v H' ⟨rfl,rfl⟩;simp only[go_sem];refine hY (aB8 (aBB _) H.length (aBA 0 _) (S4 af dir) (by rw[Za];have:=Lt l dir;omega) _<|vY H _) aK ?_
  simp only[go_sem];refine aW ?_;exact done (.sl _ _ λe he=>by obtain⟨x,_,rfl⟩:=bJ.1 he;exact .str _)<|.refl _
section
open Go.ChangeShapes Go.WideShapes Go.ChangeAt Go.RowKit
theorem aQj:rl prog 56=true:=n2
theorem aLQ{ys:List I}(h:kd prog 56 ys):∃o:b8,ys=(c4 o).cells:=by
 obtain⟨wy,J,rfl,h1,U⟩:=zj<|Xt underlying56 aQj h;obtain⟨wz,K,rfl,h2,O⟩:=zj U;obtain⟨pV,T,rfl,h3,bb⟩:=zj O;obtain⟨NI,V,rfl,h4,bf⟩:=zj bb;obtain⟨NJ,Z,rfl,z,dC⟩:=zj bf;obtain rfl:=Yl dC;obtain⟨a,rfl,_⟩:=G8 underlying3 h1;obtain⟨s,rfl,_⟩:=Hh underlying9 h2;obtain⟨u,rfl,_⟩:=Hh underlying9 h3;obtain⟨v,rfl,_⟩:=Hh underlying9 h4;obtain⟨b,rfl,_⟩:=G8 underlying3 z;exact⟨⟨a,s,u,v,b⟩,rfl⟩
end
end Go.Proofs.YtnmamncmpklliaaGreatDoor

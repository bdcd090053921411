/- What the functions of this seat answer (18 of 53). No condition. -/
import Derived.Test.YtnmamncmpklliaaGreatDoorWorkAN
import Derived.Test.YtnmamncmpklliaaGreatDoorWorkAQ
set_option linter.unusedSimpArgs false
set_option linter.unusedVariables false
set_option maxRecDepth 100000
set_option maxHeartbeats 16000000
namespace Go.Proofs.YtnmamncmpklliaaGreatDoor
variable{d:ft}
open Go.Proofs.Tryz
def UG:List cu:=[.free,.free,.pure 0,.pure 0,.free,.free,.free,.pure 0,.eff [false,false,true]]
attribute [go_sem] UG
theorem W6(s:ag)(hs:s.length<=1073741824)(H:ab):aM prog 159 [.str s] H (.int .i64<|dg s):=by
 refine aZ func159 ?_;have h1:IntKind.i64.wrap ((s.length:Int)+16)=((s.length+16:Nat):Int):=by rw[bI];rfl
 have h2:IntKind.i64.wrap (((s.length+16:Nat):Int)-1)=((s.length+15:Nat):Int):=by rw[bI];omega
 refine hH ?_;exact bD<|.of (by rw[zk iV,bI];unfold dg;simp)
theorem aJ5(n:Int)(H:ab):aM prog 60 [.int .i64 n] H (fW true<|pP n):=by
 refine aZ func60 ?_;obtain⟨z,J⟩:∃z:Nat,min (max n 0) 65536=(z:Int):=⟨(min (max n 0) 65536).toNat,iV⟩
 have U:z<=65536:=iV
 have h1:IntKind.i64.wrap ((z:Int) * 16)=((z * 16:Nat):Int):=by rw[bI];omega
 unfold pP;rw[J];refine hH ?_;exact aV<|.of (by simp[fW])
theorem aJ6(f:Bool)(d:ft)(hl:d.loose.length<=1073741824)(V:d.iU.length<=1073741824)(H:ab):aM prog 103 [fW f d] H (.bool<|n0 d):=by
 refine aZ func103 ?_;repeat' first|refine bP fW.eq_1 ?_|(refine bB ?_ ?_<;>intro h<;>try exact bA h)|fail
 ·have K:n0 d=false:=by
   rw[wB];intro q;unfold n0 at q;simp only[cV,gU]at q;rw[bI]at h;simp at h;omega
  rw[K];exact aV<|.refl _
 simp only[Bool.or_eq_false_iff,wG,Bool.not_eq_false',gU]at h;rw[bI]at h;have hk:n0 d=d.loose.all (tm d.size):=by unfold n0;rw[cD (by omega:0<=d.size),cD (by omega:d.size<=65536),cD h.2];rfl
 rw[hk];refine cE (ι:=Nat×ab) (λs=>[(1,.ref H.length 0 0),(2,.bool false),(23,.sl f<|d.loose.map eO),(24,.int .i64 d.loose.length),(25,.int .i64 s.1)]) (λs=>H++(.cells 0 [.int .i64 d.size,.str d.iU,.sl f<|d.loose.map eO]::s.2)) (λs=>s.1<=d.loose.length/\(d.loose.take s.1).all (tm d.size)=true) (λs=>d.loose.length-s.1) (0,[]) ⟨bW _,kk⟩ ?_ rfl ?_
 ·simp[go_sem]
 rintro⟨q,M⟩ ⟨aJ,U⟩;simp only at aJ U ⊢;by_cases J:q<d.loose.length
 ·have ad:=di eO J;have O:decide ((q:Int)<(d.loose.length:Int))=true:=cK;have m1:∀x:bE,(M++[x]).getD M.length .gone=x:=λx=>kk
  have m2:∀x y:bE,(M++[x]).set M.length y=M++[y]:=λx y=>kk
  have hw:=dA J iV
  have hs:(d.loose.take (q+1)).all (tm d.size)=tm d.size d.loose[q]:=by rw[fj J,List.all_append,U];simp
  have af:tm d.size d.loose[q]=false->d.loose.all (tm d.size)=false:=λe=>by
   rw[wB];intro w;have:=gm.1 w _<|ga J;rw[e]at this;cases this
  generalize d.loose[q]=p at *;repeat' first|(refine ae ?_;simp only[go_sem,ad,O,eO,m1,m2])|refine bt ?_|(refine bB ?_ ?_<;>intro h<;>try exact bA h)|fail
  ·rw[af (by unfold tm;simp at *;omega)]
   exact aV<|.refl _
  ·refine⟨(q+1,M++[_]),⟨J,?_⟩,by simp only;omega,bU _ hw,rfl⟩
   simp only;rw[hs];unfold tm;simp at *;omega
 ·have T:q=d.loose.length:=iV
  subst T;rw[eG]at U;repeat' first|(refine ae ?_;simp only[go_sem,J])|refine ao ?_|fail
  rw[U];exact aV<|.refl _
structure eY (d:ft):Prop where
 ok:n0 d=true
 LO:d.loose.length<=1000000
theorem eY.size(h:eY d):0<=d.size/\d.size<=65536/\(d.iU.length:Int)=d.size * 16/\∀p∈d.loose,0<=p.at_/\p.at_<d.size/\p.data.length=16:=by
 have:=h.ok;unfold n0 at this;simp only[cV,gU,gm]at this;refine⟨this.1,this.2.1,this.2.2.1,λp ad=>?_⟩
 have:=this.2.2.2 p ad;unfold tm at this;simpa using this
theorem F3(f:Bool)(h:eY d)(H:ab):aM prog 103 [fW f d] H (.bool true):=by
 have hs:=h.size;have:=h.LO;have J:=aJ6 f d iV iV H
 rwa[h.ok]at J
theorem Wd(s:ag):(ha s).length=dg s:=by unfold ha;simp
theorem Oz(s:ag):(wW s).length=16:=by unfold wW;simp[cw];omega
def tJ(s:ag)(i:Nat):ag:=(List.range i).flatMap (λk=>wW<|s.drop (k * 16))++cw ((dg s-i) * 16)
theorem We(s:ag)(i:Nat):((List.range i).flatMap λk=>wW<|s.drop (k * 16)).length=i * 16:=by
 induction i with
 |zero=>rfl
 |succ i J=>rw[zp,tE,bF,J];simp[Oz];omega
theorem aEW(s:ag)(i:Nat)(h:i<dg s):
  (tJ s i).take (i * 16)++((s.drop (i * 16)).take 16++(tJ s i).drop (i * 16+((s.drop (i * 16)).take 16).length))=tJ s (i+1):=by
 have hl:=We s i;unfold tJ;rw[zp,tE];obtain⟨u,hu⟩:∃u,u=(s.drop (i * 16)).take 16:=⟨_,rfl⟩;have ad:(List.flatMap (λk=>wW<|s.drop (k * 16)) [i])=u++cw (16-(s.drop (i * 16)).length):=by simp[wW,hu]
 have J:u.length=min 16 (s.drop<|i * 16).length:=by rw[hu,eK]
 rw[ad,<-hu];generalize(List.range i).flatMap (λk=>wW<|s.drop (k * 16))=A at *
 rw[<-hl,x0,<-sD,xZ,dr,dr];congr 2;unfold cw;rw[J4,List.replicate_append_replicate];congr 1;have:dg s-i=dg s-(i+1)+1:=iV
 rw[this,pg,J];simp only[fT,hl]at *;omega
theorem aEX(s:ag):ch (tJ s<|dg s)=((ha s).map λt=>I.agg<|ch t).flatMap I.cells:=by
 unfold tJ ha;rw[Nat.sub_self,Nat.zero_mul,Gf,Gf];simp only[I.cells,cw,List.replicate_zero,cA];unfold ch;rw[List.map_flatMap]
theorem aJ7(s:ag)(hs:s.length<=1073741824)(H:ab):aM prog 160 [.str s] H (.sl false<|(ha s).map λt=>I.agg (ch t)):=by
 refine aZ func160 ?_;have hm:=W6 s hs;have z:dg s<=67108864:=by unfold dg;omega
 repeat' first|(refine ae ?_;simp only[go_sem])|refine ao ?_|fail
 refine cE (ι:=Nat) (λi=>[(0,.str s),(3,.osl 16 H.length 1 0 (dg s)<|dg s),(9,.int .i64<|dg s),(10,.int .i64 i)]) (λi=>H++[.cells 1 (ch<|tJ s i)]) (λi=>i<=dg s) (λi=>dg s-i) 0 (bW _) ?_ ?_ ?_
 ·simp[go_sem]
 ·simp[tJ]
 intro i hi;by_cases U:i<dg s
 ·have K:decide ((i:Int)<(dg s:Int))=true:=cK;have hw:=dA U iV
  have V:IntKind.i64.wrap ((i:Int) * 16)=((i * 16:Nat):Int):=by rw[bI];omega
  have hle:i * 16<=s.length:=by unfold dg at U;omega
  have jl:(tJ s i).length=dg s * 16:=by unfold tJ;rw[bF,We,rV,<-pg];congr 1;omega
  have O:=TO (tJ s i) ((s.drop (i * 16)).take 16)<|i * 16;rw[aEW s i U]at O;generalize tJ s i=T at *;repeat' first|((first|refine mx [5] UG ?_|refine ae ?_);simp only[go_sem,K,V,O])|refine ao ?_|fail
  exact⟨i+1,U,iV,bU _ hw,rfl⟩
 ·have Z:i=dg s:=iV
  subst Z;have K:decide ((dg s:Int)<(dg s:Int))=false:=kk
  refine hH ?_;exact uH (cs:=ch<|tJ s (dg s)) (es:=(ha s).map λt=>I.agg<|ch t) (rest:=[]) (bd _) nb (by rw[cA];exact aEX s) (by rw[cv,Wd])
   (λe he=>by obtain⟨t,ah,rfl⟩:=bJ.1 he;obtain⟨k, -,rfl⟩:=bJ.1 ah;exact(q0 _).trans<|Oz _) (λe he=>by obtain⟨t, -,rfl⟩:=bJ.1 he;exact .agg _ λx J=>by obtain⟨b, -,rfl⟩:=bJ.1 J;exact .int _ _) rfl
theorem aEY{t s:ag}{off:Nat}(h:off+s.length<=t.length):(iD t off s).length=t.length:=by
 unfold iD;simp only[bF,eK,fT];omega
def xO(a n:Nat)(t:ag)(p:gA):ag:=if(a:Int)<=p.at_/\p.at_<a+n then iD t ((p.at_.toNat-a) * 16) p.data else t
theorem Wf(d:ft)(a n:Nat):jr d a n=d.loose.foldl (xO a n) ((d.iU.drop (a * 16)).take (n * 16)):=rfl
def T2:List cu:=[.free,.pure 0,.pure 0,.free,.free,.free,.pure 0,.pure 0,.pure 0,.eff [false,true,false,true,true]]
def T3:List cu:=[.pure 0,.pure 0,.pure 0,.pure 0,.pure 0,.pure 0,.free,.eff [false,false,false,false,false,false]]
attribute [go_sem] T2 T3
theorem W7(f:Bool)(hk:eY d)(a n:Nat)(af:((a+n:Nat):Int)<=d.size)(H:ab):aM prog 154 [fW f d,.int .i64 a,.int .i64 n] H (.str<|jr d a n):=by
 refine aZ func154 ?_;obtain⟨k1,k2,k3,k4⟩:=hk.size;have Rg:=hk.LO;have cP:IntKind.i64.wrap ((a:Int) * 16)=((a * 16:Nat):Int):=by rw[bI];omega
 have z:IntKind.i64.wrap ((a:Int)+(n:Int))=((a+n:Nat):Int):=by rw[bI];omega
 have fX:IntKind.i64.wrap (((a+n:Nat):Int) * 16)=(((a+n) * 16:Nat):Int):=by rw[bI];omega
 rw[Wf];have HX:List.drop (a * 16) (List.take ((a+n) * 16) d.iU)=(d.iU.drop (a * 16)).take (n * 16):=by rw[List.drop_take];congr 1;omega
 obtain⟨V,Z9⟩:∃V,V=(d.iU.drop (a * 16)).take (n * 16):=⟨_,rfl⟩;have HP:V.length=n * 16:=by rw[Z9,eK,fT];omega
 rw[<-Z9]at HX ⊢;repeat' first|(refine ae ?_;simp only[go_sem,fW,cP,z,fX,HX,HP])|refine ao ?_|fail
 obtain⟨T,h0⟩:∃T:Nat->ag,∀q,T q=(d.loose.take q).foldl (xO a n) V:=⟨_,λ_=>rfl⟩
 refine cE (ι:=Nat×ab) (λs=>[(1,.int .i64 a),(2,.int .i64 n),(7,.osl 1 (H.length+1) 1 0 (n * 16)<|n * 16),(21,.sl f<|d.loose.map eO),(22,.int .i64 d.loose.length),(23,.int .i64 s.1)]) (λs=>H++(.cells 0 [.int .i64 d.size,.str d.iU,.sl f<|d.loose.map eO]::.cells 1 (ch<|T s.1)::s.2)) (λs=>s.1<=d.loose.length/\(T s.1).length=n * 16) (λs=>d.loose.length-s.1) (0,[]) ⟨bW _,by rw[h0];simpa using HP⟩ ?_ (by rw[h0];rfl) ?_
 ·simp[go_sem]
 rintro⟨q,M⟩ ⟨aJ,Z⟩;simp only at aJ Z ⊢;by_cases J:q<d.loose.length
 ·have ad:=di eO J;have bg:decide ((q:Int)<(d.loose.length:Int))=true:=cK;have m1:∀x:bE,(M++[x]).getD M.length .gone=x:=λx=>kk
  have m2:∀x y:bE,(M++[x]).set M.length y=M++[y]:=λx y=>kk
  have hw:=dA J iV
  have K:T (q+1)=xO a n (T q) d.loose[q]:=by rw[h0,h0,fj J,u0];rfl
  obtain⟨jO,z2,z3⟩:=k4 _<|ga J;generalize d.loose[q]=p at *;obtain⟨P,jC⟩:∃P:Nat,p.at_=P:=⟨p.at_.toNat,iV⟩
  by_cases bL:a<=P/\P<a+n
  ·have c1:decide ((a:Int)<=p.at_)=true:=cK;have c2:decide (p.at_<((a+n:Nat):Int))=true:=cK;have gx:IntKind.i64.wrap (p.at_-(a:Int))=((P-a:Nat):Int):=by rw[bI];omega
   have jM:IntKind.i64.wrap (((P-a:Nat):Int) * 16)=(((P-a) * 16:Nat):Int):=by rw[bI];omega
   have aT:(P-a) * 16+16<=n * 16:=iV
   rw[show xO a n (T q) p=iD (T q) ((P-a) * 16) p.data by unfold xO;rw[aA iV,jC];rfl]at K
   have r4:=aEY (t:=T q) (s:=p.data) (off:=(P-a) * 16) iV
   rw[<-K,Z]at r4;have I:=TO (T q) (p.data.take (n * 16-(P-a) * 16))<|(P-a) * 16;have h8:p.data.take (n * 16-(P-a) * 16)=p.data:=iw iV
   rw[h8]at I;have Il:(T q).take ((P-a) * 16)++(p.data++(T q).drop ((P-a) * 16+p.data.length))=T (q+1):=by rw[K];unfold iD;rw[Z,h8]
   rw[Il]at I;generalize T q=U at *;generalize(P-a) * 16=O at *;repeat' first|((first|refine mx [6] T2 ?_|refine ae ?_);simp only[go_sem,ad,bg,eO,m1,m2,c1,c2,z,gx,jM,h8,I,z3])|refine ao ?_|fail
   exact⟨(q+1,M++[_]),⟨J,r4⟩,by simp only;omega,bU _ hw,by rw[me,I]⟩
  ·have c1:(decide ((a:Int)<=p.at_)&&decide (p.at_<((a+n:Nat):Int)))=false:=by
    rw[Bool.and_eq_false_iff,wG,wG];omega
   rw[show xO a n (T q) p=T q by unfold xO;rw[aj iV]]at K
   repeat' first|(refine ae ?_;simp only[go_sem,ad,bg,eO,m1,m2,z,c1])|refine ao ?_|fail
   exact⟨(q+1,M++[.cells 0 [.int .i64 p.at_,.str p.data]]),⟨J,by simp only;rw[K];exact Z⟩,by simp only;omega,bU _ hw,by rw[K]⟩
 ·have eV:q=d.loose.length:=iV
  subst eV;rw[h0,eG]at *;generalize d.loose.foldl (xO a n) V=U at *;have Fa:List.take (n * 16 * 1) (ch U)=ch U:=iw<|by rw[q0];omega
  have Rq:(n * 16 * 1<=U.length)=True:=b5 iV
  repeat' first|(refine ae ?_;simp only[go_sem,J,Fa,Rq])|refine ao ?_|fail
  exact aV<|.refl _
theorem aHb(f:Bool)(hk:eY d)(H:ab):aM prog 115 [fW f d] H (fW true<|lM d):=by
 refine aZ func115 ?_;obtain⟨k1,k2,k3,k4⟩:=hk.size;have J:=F3 f hk;obtain⟨z,U⟩:∃z:Nat,d.size=z:=⟨d.size.toNat,iV⟩
 have hs:=W7 f hk 0 z iV
 unfold lM fW at *;rw[show d.size.toNat=z by omega]
 rw[U]at J hs ⊢;repeat' first|((first|refine mx [3] T3 ?_|refine ae ?_);simp only[go_sem])|refine ao ?_|fail
 exact aV<|.refl _
theorem Xs:De prog 107 eO:=GN 2 func107
theorem aJd(f:Bool)(d:ft)(hl:d.loose.length<=1000000)(H:ab):aM prog 124 [fW f d] H (fW false d):=by
 refine aZ func124 ?_;have J:=Xs f d.loose iV
 refine bP fW.eq_1 ?_;exact aV<|.refl _
theorem aD6(a:Nat)(l:List ag)(i:Nat)(h:i<l.length):(k5 a l).take (i+1)=(k5 a l).take i++[⟨(a+i:Nat),l[i]⟩]:=by
 rw[fj (by unfold k5;simpa using h)]
 congr 2;unfold k5;simp[h]
def zU:gA:=⟨0,[]⟩
theorem aD7(n:Nat):(List.replicate n (I.agg [.int .i64 0,.str []])).flatMap I.cells=aS eO (List.replicate n zU):=by unfold aS;rw[List.map_replicate];rfl
theorem aD8{α:Type}{enc:α->I}{s:Nat}(hs:∀x,(enc x).cells.length=s)(A B C:List α)(h:A.length=B.length):dq (aS enc<|B++C) 0 (aS enc A)=aS enc (A++C):=by
 unfold dq;rw[iR,iR,Du,ju,j9,ej hs,h,<-ej hs B,xZ]
theorem aEZ(a:Nat)(l:List ag):(k5 a l).length=l.length:=by unfold k5;simp
theorem aE0(f:Bool)(hk:eY d)(a:Nat)(s:ag)(hs:s.length<=1073741824)(aF:a<=1000000)(H:ab):aM prog 114 [fW f d,.int .i64 a,.str s] H (.aQ [fW false (oZ d a s).1,.int .i64 (oZ d a s).2]):=by
 refine aZ func114 ?_;obtain⟨k1,k2,k3,k4⟩:=hk.size;have Rg:=hk.LO;have au:=F3 f hk;have hm:=W6 s hs;have vK:dg s<=67108864:=by unfold dg;omega
 have cP:IntKind.i64.wrap (d.size-(dg s:Int))=d.size-dg s:=bI;have d1:decide ((a:Int)<0)=false:=cQ;unfold oZ;rw[aj iV]
 have jF:=aJd f d Rg;unfold fW at *;by_cases K:d.size-dg s<a
 ·have d2:decide (d.size-(dg s:Int)<(a:Int))=true:=cD K;rw[aA K];refine hH ?_;exact aV<|.refl _
 ·have d2:decide (d.size-(dg s:Int)<(a:Int))=false:=bN K;rw[aj K];have EN:=aJ7 s hs;have V:=Wd s;have fX:IntKind.i64.wrap ((d.loose.length:Int)+(dg s:Int))=((d.loose.length+dg s:Nat):Int):=by rw[bI];omega
  have O:=aEZ a<|ha s;by_cases eU:d.loose.length+dg s=0
  ·have ko:d.loose=[]:=iO iV
   have yG:ha s=[]:=iO iV
   have yQ:dg s=0:=iV
   rw[ko]at au ⊢;rw[yQ]at hm cP d2;rw[yG]at EN ⊢;have mU:IntKind.i64.wrap (((0:Nat):Int)+((0:Nat):Int))=0:=rfl;refine hH ?_;refine sW 1 ?_;unfold qc;repeat' first|(refine ae ?_;simp only[go_sem])|refine ao ?_|fail
   exact⟨_,.aQ [.agg [.int .i64 d.size,.str d.iU,.sl false []],.int .i64 0],rfl,.aQ _ _ rfl<|dj (.agg _ _ rfl (dj (.cl _ (.int _ _)) (dj (.cl _ (.str _)) (dj (q3 (v:=2) (cs:=[]) (es:=[]) (rest:=[]) iV (by simp only[go_sem];rfl) rfl rfl kk kk) fw)))) (dj (.cl _ (.int _ _)) fw),rfl⟩
  have aXu:(0=d.loose.length+dg s)=False:=x5 iV
  have aT:=aD7<|d.loose.length+dg s;have qu:=ej (enc:=eO) (s:=2) (λ_=>rfl)<|List.replicate (d.loose.length+dg s) zU
  rw[zl]at qu;have Au:List.flatMap I.cells (d.loose.map eO)=aS eO d.loose:=rfl;have As:(∀e∈d.loose.map eO,e.cells.length=2)=True:=b5 λe he=>by obtain⟨x, -,rfl⟩:=bJ.1 he;rfl
  have ra:(aS eO d.loose).all I.one=true:=gm.2 λx J=>by
   rw[aS,u2]at J;obtain⟨y,aH,J⟩:=J;obtain⟨z, -,rfl⟩:=bJ.1 aH;rcases cU.1 J with rfl|J
   ·rfl
   ·rw[dF.1 J];rfl
  have dZ:dq (aS eO<|List.replicate (d.loose.length+dg s) zU) 0 (aS eO d.loose)=aS eO (d.loose++List.replicate (dg s) zU):=by
   rw[show List.replicate (d.loose.length+dg s) zU=List.replicate d.loose.length zU++List.replicate (dg s) zU by simp]
   exact aD8 (enc:=eO) (s:=2) (λ_=>rfl) _ _ _ zl.symm
  refine hH ?_;obtain⟨D,U⟩:∃D:Nat->List gA,∀i,D i=d.loose++((k5 a (ha s)).take i++List.replicate (dg s-i) zU):=⟨_,λ_=>rfl⟩
  have T:∀i,i<=dg s->(D i).length=d.loose.length+dg s:=λi hi=>by rw[U];simp[O,V];omega
  refine qD (ι:=ab) (λs1=>[(3,.ref H.length 0 0),(6,.ref (H.length+1) 0 0),(9,.osl 2 (H.length+2) 1 0 (d.loose.length+dg s)<|d.loose.length+dg s)]) (λs1=>H++(.cells 0 [.int .i64 d.size,.str d.iU,.sl f<|d.loose.map eO]::.cells 0 [.int .i64 0,.str [],.sl true []]::.cells 1 (aS eO<|D (dg s))::s1)) (λ_=>True) ?_ λM _=>?_
  ·refine cE (ι:=Nat×ab) (λx=>[(1,.int .i64 a),(3,.ref H.length 0 0),(6,.ref (H.length+1) 0 0),(9,.osl 2 (H.length+2) 1 0 (d.loose.length+x.1)<|d.loose.length+dg s),(43,.sl false<|(ha s).map λt=>I.agg (ch t)),(44,.int .i64<|dg s),(45,.int .i64 x.1)])
    (λx=>H++(.cells 0 [.int .i64 d.size,.str d.iU,.sl f<|d.loose.map eO]::.cells 0 [.int .i64 0,.str [],.sl true []]::.cells 1 (aS eO<|D x.1)::x.2)) (λx=>x.1<=dg s) (λx=>dg s-x.1) (0,[]) (bW _) ?_ (by rw[U,Du,Nat.sub_zero];rfl) ?_
   ·simp[go_sem]
   rintro⟨i,M⟩ hi;simp only at hi ⊢;by_cases ak:i<dg s
   ·have ad:=di (λt=>I.agg (ch t))<|show i<(ha s).length by omega
    have bg:decide ((i:Int)<(dg s:Int))=true:=cK;have m1:∀x:bE,(M++[x]).getD M.length .gone=x:=λx=>kk
    have m2:∀x y:bE,(M++[x]).set M.length y=M++[y]:=λx y=>kk
    have hw:=dA ak iV
    have dI:IntKind.i64.wrap ((a:Int)+(i:Int))=((a+i:Nat):Int):=by rw[bI];omega
    have Z:((ha s)[i]'(by omega)).length=16:=by unfold ha;simp[Oz]
    have ar:=JL (enc:=eO) (s:=2) (λ_=>rfl) (D:=D i) (k:=d.loose.length+i) (by rw[T i hi];omega) ⟨(a+i:Nat),(ha s)[i]'(by omega)⟩
    have vu:(D i).set (d.loose.length+i) ⟨(a+i:Nat),(ha s)[i]'(by omega)⟩=D (i+1):=by
     rw[U,U,aD6 a (ha s) i iV,List.set_append_right _ _ iV,Nat.add_sub_cancel_left,List.set_append_right _ _ nX,dr]
     congr 2;rw[eK,O,uX iV,Nat.sub_self,show dg s-i=dg s-(i+1)+1 by omega,zo]
     rfl
    rw[vu]at ar;simp only[eO,I.cells]at ar;have dH:=ej (enc:=eO) (s:=2) (λ_=>rfl)<|D i
    rw[T i hi]at dH;have eC:=T i hi;generalize(ha s)[i]'(by omega)=t at *
    have hsz:dq [.int .u8 0,.int .u8 0,.int .u8 0,.int .u8 0,.int .u8 0,.int .u8 0,.int .u8 0,.int .u8 0,.int .u8 0,.int .u8 0,.int .u8 0,.int .u8 0,.int .u8 0,.int .u8 0,.int .u8 0,.int .u8 0] 0 (ch t)=ch t:=by unfold dq;rw[Du,ju,JX (by rw[q0,Z];decide),cA]
    have h8:List.take 16 (ch t)=ch t:=iw<|by rw[q0];omega
    have j0:(∀e,e=I.agg [.int .i64 ((a+i:Nat):Int),.str t]->e.cells.length=2)=True:=b5 λe he=>by rw[he];rfl
    have aN:¬(d.loose.length+i=d.loose.length+dg s):=iV
    repeat' first|(refine ae ?_;simp only[go_sem,ad,bg,m1,m2,dI,Z,hsz,h8,aN,dH,ar,j0])|refine ao ?_|fail
    exact⟨(i+1,M++[.cells 0 (ch t)]),by simp only;omega,by simp only;omega,⟨rfl,bU _ hw⟩,rfl⟩
   ·have eV:i=dg s:=iV
    subst eV;refine hH ?_;exact⟨M,rfl⟩
  ·have EU:aS eO (D<|dg s)=((d.loose++k5 a (ha s)).map eO).flatMap I.cells:=by
    rw[U,Nat.sub_self,List.replicate_zero,cA,iw iV];rfl
   refine CN [9] ((d.loose++k5 a (ha s)).map eO) (v:=1) (lc:=d.loose.length+dg s) (i:=H.length+2) (s:=2) (cs:=aS eO<|D (dg s)) (by intro t ah;simp only[dF]at ah;subst ah;rw[cv,bF,O,V];simp only[go_sem]) nb iV EU (λe he=>by(obtain⟨x, -,rfl⟩:=bJ.1 he;rfl)) ?_
   simp only[go_sem,dz,hj];refine aW ?_;exact aV<|.refl _
end Go.Proofs.YtnmamncmpklliaaGreatDoor

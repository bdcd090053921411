/- What the functions of this seat answer (18 of 40). No condition. -/
import Derived.Test.YthafnbmdmfoobaaGreatDoorWorkAN
set_option linter.unusedSimpArgs false
set_option linter.unusedVariables false
set_option linter.unusedSectionVars false
set_option maxRecDepth 100000
set_option maxHeartbeats 16000000
namespace Go.Proofs.YthafnbmdmfoobaaGreatDoor
def gX:List cR:=[.free,.free,.free,.free,.free,.free,.pure 0,.pure 0,.free,.free,.pure 0,.pure 0,.pure 0,.eff [false,false,true,false,false],.pure 0,.eff [false,false]]
attribute [go_sem] gX
theorem tT{H:ab}{i:Nat}{b:bu}{v:I}(aa:dp H.length b)(ae:bO v)(R:I->ab->Prop)(e2:R v (ai H i b)):
  ∃H1 L y,ai H i b=H1++L∧H1.length=H.length∧(∀(j:Nat) (c:bu),H1[j]?=some c->H[j]?=some c∨dp H.length c)∧cQ H.length (ai H i b) v y∧R y H1:=
 ⟨ai H i b,[],v,(b2 _).symm,lR H i b,AN aa,.cl _ (ae.cl _),e2⟩
section
variable {lt:dB->dB->Bool} {c:dB->dB->Int} {fn:Fn} {fs cs:List I}
theorem aAc(al:∀x y,decide (c x y<0)=lt x y)(an:qX Tryz.prog (.func fn fs cs) c){d:Array dB}{a b p n lc aE v:Nat}(ag:n=d.size)(hl:n<=1073741824)(aa:b<=n)(sm:a<=p)(aKe:p<b)(H:ab)(ah:ao H aE=.cells v (dx d)):
  c5 Tryz.prog 247 [.osl 1 aE v 0 n lc,.int .i64 a,.int .i64 b,.int .i64 p,.func fn fs cs] H (fun r H'=>r=.int .i64 ((Sort.partitionEqual lt d a b p).1:Nat)∧H'=ai H aE (.cells v (dx (Sort.partitionEqual lt d a b p).2))):=by
 refine eJ Tryz.func247 ?_;have kv:=mT [(1,gX),(8,gX)];have aJ:=fun b=>m2 ah trivial b
 have hs:=nw H aE;have fV:=eU (d:=d) (show a<d.size by omega)
 have lV:=eU (d:=d) (show p<d.size by omega)
 have gd:=mH (d:=d) (show a<d.size by omega) (show p<d.size by omega)
 have sl:=nf d ag.symm (show a<n by omega)
 have ca:IntKind.i64.wrap ((a:Int)+1)=((a+1:Nat):Int):=b9 (by omega) (by omega)
 have bT:IntKind.i64.wrap ((b:Int)-1)=((b-1:Nat):Int):=b9 (by omega) (by omega)
 have e2:Sort.partitionEqual lt d a b p=Sort.partEqLoop lt a (a+1) (b-1) (Sort.swp d a p):=rfl;rw[e2];have wv:(Sort.swp d a p).size=n:=by rw[m1];exact ag.symm
 repeat' first|((first|refine mx [1,8] gX ?_|refine ad ?_);simp only[go_sem,ah,aJ,hs,fV,lV,gd,sl,ca,bT,eE,fF,<-ag])|refine af ?_|fail
 generalize Sort.swp d a p=eG at *;refine b5 (ι:=Nat×Nat×Array dB) (fun s=>[(0,.osl 1 aE v 0 n lc),(1,.int .i64 a),(4,.func fn fs cs),(11,.int .i64 s.1),(12,.int .i64 s.2.1)]) (fun s=>ai H aE (.cells v (dx s.2.2)))
  (fun s=>Sort.partEqLoop lt a s.1 s.2.1 s.2.2=Sort.partEqLoop lt a (a+1) (b-1) eG∧s.2.2.size=n∧a<s.1∧s.1<=n+1∧s.2.1<n) (fun s=>s.2.1+1-s.1) (a+1,b-1,eG) ⟨rfl,wv,by simp only;omega,by simp only;omega,by simp only;omega⟩ ?_ rfl ?_
 ·simp[go_sem]
 rintro⟨i,j,D⟩ ⟨c4,dm,ee,dH,fD⟩;simp only at c4 dm ee dH fD ⊢;rw[Sort.partEqLoop_eq]at c4;have aQ:=Sort.scanUp_ge (fun x=> !lt D[a]! x) D j i
 refine aT ?_;refine jY (ι:=Nat) (fun k=>[(0,.osl 1 aE v 0 n lc),(1,.int .i64 a),(4,.func fn fs cs),(11,.int .i64 k),(12,.int .i64 (j:Nat))]) (fun _=>ai H aE (.cells v (dx D))) (fun k=>k=Sort.scanUp (fun x=> !lt D[a]! x) D (j) (i)) ?_ ?_
 ·refine b5 (ι:=Nat) (fun k=>[(0,.osl 1 aE v 0 n lc),(1,.int .i64 a),(4,.func fn fs cs),(11,.int .i64 k),(12,.int .i64 (j:Nat))]) (fun _=>ai H aE (.cells v (dx D))) (fun k=>Sort.scanUp (fun x=> !lt D[a]! x) D (j) k=Sort.scanUp (fun x=> !lt D[a]! x) D (j) (i)∧a<k∧k<=n+1) (fun k=>j+1-k) (i) ⟨rfl,by omega,by omega⟩ ?_ rfl ?_
  ·simp[go_sem]
  rintro k ⟨h1,aC,h2⟩;rw[Sort.scanUp]at h1;by_cases gp:k<=j
  ·have aH:decide ((k:Int)<=((j:Nat):Int))=true:=b1;have fV:=eU (d:=D) (show k<D.size by omega)
   have nA:=eU (d:=D) (show a<D.size by omega)
   have ca:IntKind.i64.wrap ((k:Int)+1)=((k+1:Nat):Int):=b9 (by omega) (by omega)
   repeat' first|((first|refine mx [1,8] gX ?_|refine ad ?_);simp only[go_sem,aH,aJ,hs,fV,nA,eE,fF,dm])|refine af ?_|fail
   refine n8 an ?_;simp only[go_sem,al];cases cV:lt D[a]! D[k]! with
   |false=>
    simp only[cF gp,hG,cV,s3,dI]at h1;refine bW ?_;exact⟨k+1,⟨h1,by omega,by omega⟩,by omega,rfl⟩
   |true=>
    simp only[cF gp,hG,cV,vA,ht,eF]at h1;repeat' first|((first|refine mx [1,8] gX ?_|refine ad ?_);simp only[go_sem,cV])|refine af ?_|fail
    exact⟨k,h1,rfl⟩
  ·have aH:decide ((k:Int)<=((j:Nat):Int))=false:=cg;simp only[b8 gp,xj,ht,eF]at h1;repeat' first|((first|refine mx [1,8] gX ?_|refine ad ?_);simp only[go_sem,aH])|refine af ?_|fail
   exact⟨k,h1,rfl⟩
 rintro i2 hV;rw[<-hV]at c4 aQ;have aO:=Sort.scanDown_le (fun x=>lt D[a]! x) D i2 j
 refine aT ?_;refine jY (ι:=Nat) (fun k=>[(0,.osl 1 aE v 0 n lc),(1,.int .i64 a),(4,.func fn fs cs),(11,.int .i64 (i2:Nat)),(12,.int .i64 k)]) (fun _=>ai H aE (.cells v (dx D))) (fun k=>k=Sort.scanDown (fun x=>lt D[a]! x) D (i2) (j)) ?_ ?_
 ·refine b5 (ι:=Nat) (fun k=>[(0,.osl 1 aE v 0 n lc),(1,.int .i64 a),(4,.func fn fs cs),(11,.int .i64 (i2:Nat)),(12,.int .i64 k)]) (fun _=>ai H aE (.cells v (dx D))) (fun k=>Sort.scanDown (fun x=>lt D[a]! x) D (i2) k=Sort.scanDown (fun x=>lt D[a]! x) D (i2) (j)∧k<=j) (fun k=>k) (j) ⟨rfl,bk _⟩ ?_ rfl ?_
  ·simp[go_sem]
  rintro k ⟨h1,h2⟩;by_cases gp:i2<=k
  ·have aH:decide (((i2:Nat):Int)<=(k:Int))=true:=b1;obtain⟨m,rfl⟩:∃m,k=m+1:=⟨k-1,by omega⟩
   rw[Sort.scanDown]at h1;have fV:=eU (d:=D) (show m+1<D.size by omega)
   have nA:=eU (d:=D) (show a<D.size by omega)
   have ca:IntKind.i64.wrap (((m+1:Nat):Int)-1)=((m:Nat):Int):=b9 (by omega) (by omega)
   repeat' first|((first|refine mx [1,8] gX ?_|refine ad ?_);simp only[go_sem,aH,aJ,hs,fV,nA,eE,fF,dm])|refine af ?_|fail
   refine n8 an ?_;simp only[go_sem,al];cases cV:lt D[a]! D[m+1]! with
   |true=>
    simp only[cF gp,hG,cV,s3,dI]at h1;repeat' first|((first|refine mx [1,8] gX ?_|refine ad ?_);simp only[go_sem,cV,ca])|refine af ?_|fail
    exact⟨m,⟨h1,by omega⟩,nW _,rfl⟩
   |false=>
    simp only[cF gp,hG,cV,vA,ht,eF]at h1;repeat' first|((first|refine mx [1,8] gX ?_|refine ad ?_);simp only[go_sem,cV])|refine af ?_|fail
    exact⟨m+1,h1,rfl⟩
  ·have aH:decide (((i2:Nat):Int)<=(k:Int))=false:=cg;have e:Sort.scanDown (fun x=>lt D[a]! x) D (i2) k=k:=by
    cases k with
    |zero=>rfl
    |succ m=>rw[Sort.scanDown,az (by rw[b8 gp];simp)]
   rw[e]at h1;repeat' first|((first|refine mx [1,8] gX ?_|refine ad ?_);simp only[go_sem,aH])|refine af ?_|fail
   exact⟨k,h1,rfl⟩
 rintro kD z3;rw[<-z3]at c4 aO;by_cases kR:i2>kD
 ·have aH:decide ((kD:Int)<(i2:Int))=true:=b1;simp only[aF kR]at c4;repeat' first|((first|refine mx [1,8] gX ?_|refine ad ?_);simp only[go_sem,aH])|refine af ?_|fail
  rw[<-c4];exact tT (m4 _ _ _) (.int _ _) _ ⟨rfl,rfl⟩
 ·have aH:decide ((kD:Int)<(i2:Int))=false:=cg;simp only[az kR]at c4;have fV:=eU (d:=D) (show i2<D.size by omega)
  have lV:=eU (d:=D) (show kD<D.size by omega)
  have gd:=mH (d:=D) (show i2<D.size by omega) (show kD<D.size by omega)
  have sl:=nf D dm (show i2<n by omega)
  have dL:IntKind.i64.wrap ((i2:Int)+1)=((i2+1:Nat):Int):=b9 (by omega) (by omega)
  have gH:IntKind.i64.wrap ((kD:Int)-1)=((kD-1:Nat):Int):=b9 (by omega) (by omega)
  repeat' first|((first|refine mx [1,8] gX ?_|refine ad ?_);simp only[go_sem,aH,aJ,hs,fV,lV,gd,sl,dL,gH,eE,fF,dm])|refine af ?_|fail
  exact⟨(i2+1,kD-1,Sort.swp D i2 kD),⟨c4,by simp only[m1];exact dm,by simp only;omega,by simp only;omega,by simp only;omega⟩,by simp only;omega,⟨rfl,rfl⟩,rfl⟩
theorem aDQ(al:∀x y,decide (c x y<0)=lt x y)(an:qX Tryz.prog (.func fn fs cs) c){d:Array dB}{a b p n lc aE v:Nat}(ag:n=d.size)(hl:n<=1073741824)(aa:b<=n)(sm:a<=p)(aKe:p<b)(H:ab)(ah:ao H aE=.cells v (dx d)):
  c5 Tryz.prog 248 [.osl 1 aE v 0 n lc,.int .i64 a,.int .i64 b,.int .i64 p,.func fn fs cs] H (fun r H'=>r=.a0 [.int .i64 ((Sort.partition lt d a b p).1:Nat),.bool (Sort.partition lt d a b p).2.1]∧H'=ai H aE (.cells v (dx (Sort.partition lt d a b p).2.2))):=by
 refine eJ Tryz.func248 ?_;have kv:=mT [(1,gX),(8,gX),(10,gX),(18,gX),(21,gX)];have aJ:=fun b=>m2 ah trivial b
 have hs:=nw H aE;have fV:=eU (d:=d) (show a<d.size by omega)
 have lV:=eU (d:=d) (show p<d.size by omega)
 have gd:=mH (d:=d) (show a<d.size by omega) (show p<d.size by omega)
 have sl:=nf d ag.symm (show a<n by omega)
 have ca:IntKind.i64.wrap ((a:Int)+1)=((a+1:Nat):Int):=b9 (by omega) (by omega)
 have bT:IntKind.i64.wrap ((b:Int)-1)=((b-1:Nat):Int):=b9 (by omega) (by omega)
 have wv:(Sort.swp d a p).size=n:=by rw[m1];exact ag.symm
 obtain⟨R,e2⟩:∃R,Sort.partition lt d a b p=R:=⟨_,rfl⟩;rw[e2];unfold Sort.partition at e2;repeat' first|((first|refine mx [1,8,10,18,21] gX ?_|refine ad ?_);simp only[go_sem,ah,aJ,hs,fV,lV,gd,sl,ca,bT,eE,fF,<-ag])|refine af ?_|fail
 generalize Sort.swp d a p=eG at *;have aQ:=Sort.scanUp_ge (fun x=>lt x eG[a]!) eG (b-1) (a+1)
 refine jY (ι:=Nat) (fun k=>[(0,.osl 1 aE v 0 n lc),(1,.int .i64 a),(4,.func fn fs cs),(10,.int .i64 0),(11,.bool false),(12,.int .i64 k),(13,.int .i64 (b-1:Nat))]) (fun _=>ai H aE (.cells v (dx eG))) (fun k=>k=Sort.scanUp (fun x=>lt x eG[a]!) eG (b-1) (a+1)) ?_ ?_
 ·refine b5 (ι:=Nat) (fun k=>[(0,.osl 1 aE v 0 n lc),(1,.int .i64 a),(4,.func fn fs cs),(10,.int .i64 0),(11,.bool false),(12,.int .i64 k),(13,.int .i64 (b-1:Nat))]) (fun _=>ai H aE (.cells v (dx eG))) (fun k=>Sort.scanUp (fun x=>lt x eG[a]!) eG (b-1) k=Sort.scanUp (fun x=>lt x eG[a]!) eG (b-1) (a+1)∧a<k∧k<=n+1) (fun k=>b-1+1-k) (a+1) ⟨rfl,by omega,by omega⟩ ?_ rfl ?_
  ·simp[go_sem]
  rintro k ⟨h1,aC,h2⟩;rw[Sort.scanUp]at h1;by_cases gp:k<=b-1
  ·have aH:decide ((k:Int)<=((b-1:Nat):Int))=true:=b1;have fV:=eU (d:=eG) (show k<eG.size by omega)
   have nA:=eU (d:=eG) (show a<eG.size by omega)
   have ca:IntKind.i64.wrap ((k:Int)+1)=((k+1:Nat):Int):=b9 (by omega) (by omega)
   repeat' first|((first|refine mx [1,8,10,18,21] gX ?_|refine ad ?_);simp only[go_sem,aH,aJ,hs,fV,nA,eE,fF,wv])|refine af ?_|fail
   refine n8 an ?_;simp only[go_sem,al];cases cV:lt eG[k]! eG[a]! with
   |true=>
    simp only[cF gp,hG,cV,s3,dI]at h1;refine bW ?_;exact⟨k+1,⟨h1,by omega,by omega⟩,by omega,rfl⟩
   |false=>
    simp only[cF gp,hG,cV,vA,ht,eF]at h1;repeat' first|((first|refine mx [1,8,10,18,21] gX ?_|refine ad ?_);simp only[go_sem,cV])|refine af ?_|fail
    exact⟨k,h1,rfl⟩
  ·have aH:decide ((k:Int)<=((b-1:Nat):Int))=false:=cg;simp only[b8 gp,xj,ht,eF]at h1;repeat' first|((first|refine mx [1,8,10,18,21] gX ?_|refine ad ?_);simp only[go_sem,aH])|refine af ?_|fail
   exact⟨k,h1,rfl⟩
 rintro i1 iJ;simp only[<-iJ]at e2 aQ;have aO:=Sort.scanDown_le (fun x=> !lt x eG[a]!) eG i1 (b-1)
 refine aT ?_;refine jY (ι:=Nat) (fun k=>[(0,.osl 1 aE v 0 n lc),(1,.int .i64 a),(4,.func fn fs cs),(10,.int .i64 0),(11,.bool false),(12,.int .i64 (i1:Nat)),(13,.int .i64 k)]) (fun _=>ai H aE (.cells v (dx eG))) (fun k=>k=Sort.scanDown (fun x=> !lt x eG[a]!) eG (i1) (b-1)) ?_ ?_
 ·refine b5 (ι:=Nat) (fun k=>[(0,.osl 1 aE v 0 n lc),(1,.int .i64 a),(4,.func fn fs cs),(10,.int .i64 0),(11,.bool false),(12,.int .i64 (i1:Nat)),(13,.int .i64 k)]) (fun _=>ai H aE (.cells v (dx eG))) (fun k=>Sort.scanDown (fun x=> !lt x eG[a]!) eG (i1) k=Sort.scanDown (fun x=> !lt x eG[a]!) eG (i1) (b-1)∧k<=b-1) (fun k=>k) (b-1) ⟨rfl,bk _⟩ ?_ rfl ?_
  ·simp[go_sem]
  rintro k ⟨h1,h2⟩;by_cases gp:i1<=k
  ·have aH:decide (((i1:Nat):Int)<=(k:Int))=true:=b1;obtain⟨m,rfl⟩:∃m,k=m+1:=⟨k-1,by omega⟩
   rw[Sort.scanDown]at h1;have fV:=eU (d:=eG) (show m+1<eG.size by omega)
   have nA:=eU (d:=eG) (show a<eG.size by omega)
   have ca:IntKind.i64.wrap (((m+1:Nat):Int)-1)=((m:Nat):Int):=b9 (by omega) (by omega)
   repeat' first|((first|refine mx [1,8,10,18,21] gX ?_|refine ad ?_);simp only[go_sem,aH,aJ,hs,fV,nA,eE,fF,wv])|refine af ?_|fail
   refine n8 an ?_;simp only[go_sem,al];cases cV:lt eG[m+1]! eG[a]! with
   |false=>
    simp only[cF gp,hG,cV,s3,dI]at h1;repeat' first|((first|refine mx [1,8,10,18,21] gX ?_|refine ad ?_);simp only[go_sem,cV,ca])|refine af ?_|fail
    exact⟨m,⟨h1,by omega⟩,nW _,rfl⟩
   |true=>
    simp only[cF gp,hG,cV,vA,ht,eF]at h1;repeat' first|((first|refine mx [1,8,10,18,21] gX ?_|refine ad ?_);simp only[go_sem,cV])|refine af ?_|fail
    exact⟨m+1,h1,rfl⟩
  ·have aH:decide (((i1:Nat):Int)<=(k:Int))=false:=cg;have e:Sort.scanDown (fun x=> !lt x eG[a]!) eG (i1) k=k:=by
    cases k with
    |zero=>rfl
    |succ m=>rw[Sort.scanDown,az (by rw[b8 gp];simp)]
   rw[e]at h1;repeat' first|((first|refine mx [1,8,10,18,21] gX ?_|refine ad ?_);simp only[go_sem,aH])|refine af ?_|fail
   exact⟨k,h1,rfl⟩
 rintro oq aJD;simp only[<-aJD]at e2 aO;by_cases kR:i1>oq
 ·have aH:decide ((oq:Int)<(i1:Int))=true:=b1;rw[aF kR]at e2;have aIv:=eU (d:=eG) (show oq<eG.size by omega)
  have aIx:=eU (d:=eG) (show a<eG.size by omega)
  have aKt:=mH (d:=eG) (show oq<eG.size by omega) (show a<eG.size by omega)
  have aLO:=nf eG wv (show oq<n by omega)
  repeat' first|((first|refine mx [1,8,10,18,21] gX ?_|refine ad ?_);simp only[go_sem,aH,aJ,hs,aIv,aIx,aKt,aLO,eE,fF,wv])|refine af ?_|fail
  rw[<-e2];exact tT (m4 _ _ _) (by simp only[go_sem]) _ ⟨rfl,rfl⟩
 have aH:decide ((oq:Int)<(i1:Int))=false:=cg;rw[az kR]at e2;have Ve:=eU (d:=eG) (show i1<eG.size by omega)
 have Vf:=eU (d:=eG) (show oq<eG.size by omega)
 have Wt:=mH (d:=eG) (show i1<eG.size by omega) (show oq<eG.size by omega)
 have Xs:=nf eG wv (show i1<n by omega)
 have dL:IntKind.i64.wrap ((i1:Int)+1)=((i1+1:Nat):Int):=b9 (by omega) (by omega)
 have gH:IntKind.i64.wrap ((oq:Int)-1)=((oq-1:Nat):Int):=b9 (by omega) (by omega)
 have x6:(Sort.swp eG i1 oq).size=n:=by rw[m1];exact wv
 repeat' first|((first|refine mx [1,8,10,18,21] gX ?_|refine ad ?_);simp only[go_sem,aH,aJ,hs,Ve,Vf,Wt,Xs,dL,gH,eE,fF,wv])|refine af ?_|fail
 generalize Sort.swp eG i1 oq=px at *;clear Ve Vf Wt Xs fV lV gd sl;refine jY (ι:=Nat×Array dB) (fun s=>[(0,.osl 1 aE v 0 n lc),(1,.int .i64 a),(4,.func fn fs cs),(10,.int .i64 0),(11,.bool false),(13,.int .i64 s.1)]) (fun s=>ai H aE (.cells v (dx s.2))) (fun s=>s=Sort.partLoop lt a (i1+1) (oq-1) px∧s.2.size=n∧s.1<n) ?_ ?_
 ·refine b5 (ι:=Nat×Nat×Array dB) (fun s=>[(0,.osl 1 aE v 0 n lc),(1,.int .i64 a),(4,.func fn fs cs),(10,.int .i64 0),(11,.bool false),(12,.int .i64 s.1),(13,.int .i64 s.2.1)]) (fun s=>ai H aE (.cells v (dx s.2.2)))
   (fun s=>Sort.partLoop lt a s.1 s.2.1 s.2.2=Sort.partLoop lt a (i1+1) (oq-1) px∧s.2.2.size=n∧a<s.1∧s.1<=n+1∧s.2.1<n) (fun s=>s.2.1+1-s.1) (i1+1,oq-1,px) ⟨rfl,x6,by simp only;omega,by simp only;omega,by simp only;omega⟩ ?_ rfl ?_
  ·simp[go_sem]
  rintro⟨i,j,D⟩ ⟨c4,dm,ee,dH,fD⟩;simp only at c4 dm ee dH fD ⊢;rw[Sort.partLoop_eq]at c4;have bF:=Sort.scanUp_ge (fun x=>lt x D[a]!) D j i
  refine aT ?_;refine jY (ι:=Nat) (fun k=>[(0,.osl 1 aE v 0 n lc),(1,.int .i64 a),(4,.func fn fs cs),(10,.int .i64 0),(11,.bool false),(12,.int .i64 k),(13,.int .i64 (j:Nat))]) (fun _=>ai H aE (.cells v (dx D))) (fun k=>k=Sort.scanUp (fun x=>lt x D[a]!) D (j) (i)) ?_ ?_
  ·refine b5 (ι:=Nat) (fun k=>[(0,.osl 1 aE v 0 n lc),(1,.int .i64 a),(4,.func fn fs cs),(10,.int .i64 0),(11,.bool false),(12,.int .i64 k),(13,.int .i64 (j:Nat))]) (fun _=>ai H aE (.cells v (dx D))) (fun k=>Sort.scanUp (fun x=>lt x D[a]!) D (j) k=Sort.scanUp (fun x=>lt x D[a]!) D (j) (i)∧a<k∧k<=n+1) (fun k=>j+1-k) (i) ⟨rfl,by omega,by omega⟩ ?_ rfl ?_
   ·simp[go_sem]
   rintro k ⟨h1,aC,h2⟩;rw[Sort.scanUp]at h1;by_cases gp:k<=j
   ·have aH:decide ((k:Int)<=((j:Nat):Int))=true:=b1;have fV:=eU (d:=D) (show k<D.size by omega)
    have nA:=eU (d:=D) (show a<D.size by omega)
    have ca:IntKind.i64.wrap ((k:Int)+1)=((k+1:Nat):Int):=b9 (by omega) (by omega)
    repeat' first|((first|refine mx [1,8,10,18,21] gX ?_|refine ad ?_);simp only[go_sem,aH,aJ,hs,fV,nA,eE,fF,dm])|refine af ?_|fail
    refine n8 an ?_;simp only[go_sem,al];cases cV:lt D[k]! D[a]! with
    |true=>
     simp only[cF gp,hG,cV,s3,dI]at h1;refine bW ?_;exact⟨k+1,⟨h1,by omega,by omega⟩,by omega,rfl⟩
    |false=>
     simp only[cF gp,hG,cV,vA,ht,eF]at h1;repeat' first|((first|refine mx [1,8,10,18,21] gX ?_|refine ad ?_);simp only[go_sem,cV])|refine af ?_|fail
     exact⟨k,h1,rfl⟩
   ·have aH:decide ((k:Int)<=((j:Nat):Int))=false:=cg;simp only[b8 gp,xj,ht,eF]at h1;repeat' first|((first|refine mx [1,8,10,18,21] gX ?_|refine ad ?_);simp only[go_sem,aH])|refine af ?_|fail
    exact⟨k,h1,rfl⟩
  rintro i2 hV;rw[<-hV]at c4 bF;have c9:=Sort.scanDown_le (fun x=> !lt x D[a]!) D i2 j
  refine aT ?_;refine jY (ι:=Nat) (fun k=>[(0,.osl 1 aE v 0 n lc),(1,.int .i64 a),(4,.func fn fs cs),(10,.int .i64 0),(11,.bool false),(12,.int .i64 (i2:Nat)),(13,.int .i64 k)]) (fun _=>ai H aE (.cells v (dx D))) (fun k=>k=Sort.scanDown (fun x=> !lt x D[a]!) D (i2) (j)) ?_ ?_
  ·refine b5 (ι:=Nat) (fun k=>[(0,.osl 1 aE v 0 n lc),(1,.int .i64 a),(4,.func fn fs cs),(10,.int .i64 0),(11,.bool false),(12,.int .i64 (i2:Nat)),(13,.int .i64 k)]) (fun _=>ai H aE (.cells v (dx D))) (fun k=>Sort.scanDown (fun x=> !lt x D[a]!) D (i2) k=Sort.scanDown (fun x=> !lt x D[a]!) D (i2) (j)∧k<=j) (fun k=>k) (j) ⟨rfl,bk _⟩ ?_ rfl ?_
   ·simp[go_sem]
   rintro k ⟨h1,h2⟩;by_cases gp:i2<=k
   ·have aH:decide (((i2:Nat):Int)<=(k:Int))=true:=b1;obtain⟨m,rfl⟩:∃m,k=m+1:=⟨k-1,by omega⟩
    rw[Sort.scanDown]at h1;have fV:=eU (d:=D) (show m+1<D.size by omega)
    have nA:=eU (d:=D) (show a<D.size by omega)
    have ca:IntKind.i64.wrap (((m+1:Nat):Int)-1)=((m:Nat):Int):=b9 (by omega) (by omega)
    repeat' first|((first|refine mx [1,8,10,18,21] gX ?_|refine ad ?_);simp only[go_sem,aH,aJ,hs,fV,nA,eE,fF,dm])|refine af ?_|fail
    refine n8 an ?_;simp only[go_sem,al];cases cV:lt D[m+1]! D[a]! with
    |false=>
     simp only[cF gp,hG,cV,s3,dI]at h1;repeat' first|((first|refine mx [1,8,10,18,21] gX ?_|refine ad ?_);simp only[go_sem,cV,ca])|refine af ?_|fail
     exact⟨m,⟨h1,by omega⟩,nW _,rfl⟩
    |true=>
     simp only[cF gp,hG,cV,vA,ht,eF]at h1;repeat' first|((first|refine mx [1,8,10,18,21] gX ?_|refine ad ?_);simp only[go_sem,cV])|refine af ?_|fail
     exact⟨m+1,h1,rfl⟩
   ·have aH:decide (((i2:Nat):Int)<=(k:Int))=false:=cg;have e:Sort.scanDown (fun x=> !lt x D[a]!) D (i2) k=k:=by
     cases k with
     |zero=>rfl
     |succ m=>rw[Sort.scanDown,az (by rw[b8 gp];simp)]
    rw[e]at h1;repeat' first|((first|refine mx [1,8,10,18,21] gX ?_|refine ad ?_);simp only[go_sem,aH])|refine af ?_|fail
    exact⟨k,h1,rfl⟩
  rintro kD z3;rw[<-z3]at c4 c9;by_cases VV:i2>kD
  ·have ec:decide ((kD:Int)<(i2:Int))=true:=b1;simp only[aF VV]at c4;repeat' first|((first|refine mx [1,8,10,18,21] gX ?_|refine ad ?_);simp only[go_sem,ec])|refine af ?_|fail
   exact⟨(kD,D),⟨c4,dm,by simp only;omega⟩,rfl,rfl⟩
  ·have ec:decide ((kD:Int)<(i2:Int))=false:=cg;simp only[az VV]at c4;have fV:=eU (d:=D) (show i2<D.size by omega)
   have lV:=eU (d:=D) (show kD<D.size by omega)
   have gd:=mH (d:=D) (show i2<D.size by omega) (show kD<D.size by omega)
   have sl:=nf D dm (show i2<n by omega)
   have hM:IntKind.i64.wrap ((i2:Int)+1)=((i2+1:Nat):Int):=b9 (by omega) (by omega)
   have jt:IntKind.i64.wrap ((kD:Int)-1)=((kD-1:Nat):Int):=b9 (by omega) (by omega)
   repeat' first|((first|refine mx [1,8,10,18,21] gX ?_|refine ad ?_);simp only[go_sem,ec,aJ,hs,fV,lV,gd,sl,hM,jt,eE,fF,dm])|refine af ?_|fail
   exact⟨(i2+1,kD-1,Sort.swp D i2 kD),⟨c4,by simp only[m1];exact dm,by simp only;omega,by simp only;omega,by simp only;omega⟩,by simp only;omega,⟨rfl,rfl⟩,rfl⟩
 rintro⟨j,D⟩ ⟨c4,dm,ee⟩;simp only at dm ee ⊢;rw[<-c4]at e2;have fV:=eU (d:=D) (show j<D.size by omega)
 have lV:=eU (d:=D) (show a<D.size by omega)
 have gd:=mH (d:=D) (show j<D.size by omega) (show a<D.size by omega)
 have sl:=nf D dm (show j<n by omega)
 repeat' first|((first|refine mx [1,8,10,18,21] gX ?_|refine ad ?_);simp only[go_sem,aJ,hs,fV,lV,gd,sl,eE,fF,dm])|refine af ?_|fail
 rw[<-e2];exact tT (m4 _ _ _) (by simp only[go_sem]) _ ⟨rfl,rfl⟩
end
end Go.Proofs.YthafnbmdmfoobaaGreatDoor

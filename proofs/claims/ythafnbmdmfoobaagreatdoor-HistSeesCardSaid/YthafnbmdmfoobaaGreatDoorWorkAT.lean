/- What the functions of this seat answer (20 of 40). No condition. -/
import Derived.Test.YthafnbmdmfoobaaGreatDoorWorkAR
import Derived.Test.YthafnbmdmfoobaaGreatDoorWorkAS
set_option linter.unusedSimpArgs false
set_option linter.unusedVariables false
set_option linter.unusedSectionVars false
set_option maxRecDepth 100000
set_option maxHeartbeats 16000000
namespace Go.Proofs.YthafnbmdmfoobaaGreatDoor
section
def kq:List cR:=[.free,.free,.free,.free,.free,.free,.free,.free,.pure 0,.pure 0,.free,.free,.pure 0,.pure 0,.pure 0,.eff [false,false,true,false,false],.pure 0,.eff [false,false]]
attribute [go_sem] kq
section
variable {lt:dB->dB->Bool} {c:dB->dB->Int} {fn:Fn} {fs cs:List I}
theorem aDl(al:∀x y,decide (c x y<0)=lt x y)(an:qX Tryz.prog (.func fn fs cs) c){d:Array dB}{a b n lc aE v:Nat}(ag:n=d.size)(hl:n<=1073741824)(aa:b<=n)(c3:a<b)(H:ab)(ah:ao H aE=.cells v (dx d)):
  c5 Tryz.prog 246 [.osl 1 aE v 0 n lc,.int .i64 a,.int .i64 b,.func fn fs cs] H (fun r H'=>r=.bool (Sort.partialInsertionSort lt d a b).2∧H'=ai H aE (.cells v (dx (Sort.partialInsertionSort lt d a b).1))):=by
 refine eJ Tryz.func246 ?_;have aJ:=fun b=>m2 ah trivial b
 have hs:=nw H aE;have ca:IntKind.i64.wrap ((a:Int)+1)=((a+1:Nat):Int):=b9 (by omega) (by omega)
 unfold Sort.partialInsertionSort;repeat' first|(refine ad ?_;simp only[go_sem,ca])|refine af ?_|fail
 refine b5 (ι:=Nat×Nat×Array dB) (fun s=>[(0,.osl 1 aE v 0 n lc),(1,.int .i64 a),(2,.int .i64 b),(3,.func fn fs cs),(8,.bool false),(9,.int .i64 s.2.1),(10,.int .i64 ((5-s.1:Nat):Int))]) (fun s=>ai H aE (.cells v (dx s.2.2)))
  (fun s=>Sort.partialIns lt a b s.1 s.2.1 s.2.2=Sort.partialIns lt a b 5 (a+1) d∧s.2.2.size=n∧a<s.2.1∧s.2.1<=b∧s.1<=5) (fun s=>s.1) (5,a+1,d) ⟨rfl,ag.symm,by simp only;omega,by simp only;omega,bk _⟩ ?_ (oY ah trivial).symm ?_
 ·simp[go_sem]
 rintro⟨s,i0,E⟩ ⟨c4,h2,h3,h4,cz⟩;simp only at c4 h2 h3 h4 cz ⊢;cases s with
 |zero=>
  have aH:decide (((5-0:Nat):Int)<5)=false:=rfl;rw[Sort.partialIns]at c4;rw[<-c4];repeat' first|((first|refine mx [11,17,23] kq ?_|refine ad ?_);simp only[go_sem,aH])|refine af ?_|fail
  exact tT (m4 _ _ _) (.bool _) _ ⟨rfl,rfl⟩
 |succ s=>
 have aH:decide (((5-(s+1):Nat):Int)<5)=true:=b1;have FR:IntKind.i64.wrap (((5-(s+1):Nat):Int)+1)=((5-s:Nat):Int):=b9 (by omega) (by omega)
 rw[Sort.partialIns]at c4;repeat' first|((first|refine mx [11,17,23] kq ?_|refine ad ?_);simp only[go_sem,aH])|refine af ?_|fail
 refine jY (ι:=Nat) (fun k=>[(0,.osl 1 aE v 0 n lc),(1,.int .i64 a),(2,.int .i64 b),(3,.func fn fs cs),(8,.bool false),(9,.int .i64 k),(10,.int .i64 ((5-(s+1):Nat):Int))]) (fun _=>ai H aE (.cells v (dx E))) (fun k=>k=Sort.scanSorted lt E b i0∧a<k∧k<=b) ?_ ?_
 ·refine b5 (ι:=Nat) (fun k=>[(0,.osl 1 aE v 0 n lc),(1,.int .i64 a),(2,.int .i64 b),(3,.func fn fs cs),(8,.bool false),(9,.int .i64 k),(10,.int .i64 ((5-(s+1):Nat):Int))]) (fun _=>ai H aE (.cells v (dx E))) (fun k=>Sort.scanSorted lt E b k=Sort.scanSorted lt E b i0∧a<k∧k<=b) (fun k=>b-k) i0 ⟨rfl,h3,h4⟩ ?_ rfl ?_
  ·simp[go_sem]
  rintro k ⟨k1,k2,k3⟩;rw[Sort.scanSorted]at k1;by_cases hk:k<b
  ·have uY:decide ((k:Int)<(b:Int))=true:=b1;have bT:IntKind.i64.wrap ((k:Int)-1)=((k-1:Nat):Int):=b9 (by omega) (by omega)
   have dL:IntKind.i64.wrap ((k:Int)+1)=((k+1:Nat):Int):=b9 (by omega) (by omega)
   have fV:=eU (d:=E) (show k<E.size by omega)
   have lV:=eU (d:=E) (show(k-1)<E.size by omega)
   have gd:=mH (d:=E) (show k<E.size by omega) (show(k-1)<E.size by omega)
   repeat' first|((first|refine mx [11,17,23] kq ?_|refine ad ?_);simp only[go_sem,uY,aJ,hs,fV,lV,bT,eE,fF,h2])|refine af ?_|fail
   refine n8 an ?_;simp only[go_sem,al];cases cV:lt E[k]! E[k-1]! with
   |false=>
    simp only[cF hk,hG,cV,s3,dI]at k1;repeat' first|((first|refine mx [11,17,23] kq ?_|refine ad ?_);simp only[go_sem,cV,dL])|refine af ?_|fail
    exact⟨k+1,⟨k1,by omega,by omega⟩,by omega,rfl⟩
   |true=>
    simp only[cF hk,hG,cV,vA,ht,eF]at k1;repeat' first|((first|refine mx [11,17,23] kq ?_|refine ad ?_);simp only[go_sem,cV])|refine af ?_|fail
    exact⟨k,⟨k1,k2,k3⟩,rfl⟩
  ·have uY:decide ((k:Int)<(b:Int))=false:=cg;simp only[b8 hk,xj,ht,eF]at k1;repeat' first|((first|refine mx [11,17,23] kq ?_|refine ad ?_);simp only[go_sem,uY])|refine af ?_|fail
   exact⟨k,⟨k1,k2,k3⟩,rfl⟩
 clear h3 h4;rintro i ⟨hi,h3,h4⟩;simp only[<-hi]at c4;clear hi;by_cases fG:i=b
 ·subst fG;rw[aF rfl]at c4;have Fv:decide ((i:Int)=(i:Int))=true:=cF rfl;repeat' first|((first|refine mx [11,17,23] kq ?_|refine ad ?_);simp only[go_sem,Fv])|refine af ?_|fail
  rw[<-c4];exact tT (m4 _ _ _) (.bool _) _ ⟨rfl,rfl⟩
 have Fv:decide ((i:Int)=(b:Int))=false:=cg;rw[az fG]at c4;have bT:IntKind.i64.wrap ((b:Int)-(a:Int))=((b-a:Nat):Int):=b9 (by omega) (by omega)
 have WD:IntKind.i64.wrap ((i:Int)-(a:Int))=((i-a:Nat):Int):=b9 (by omega) (by omega)
 have WE:IntKind.i64.wrap ((i:Int)-1)=((i-1:Nat):Int):=b9 (by omega) (by omega)
 have dL:IntKind.i64.wrap ((b:Int)-(i:Int))=((b-i:Nat):Int):=b9 (by omega) (by omega)
 have gH:IntKind.i64.wrap ((i:Int)+1)=((i+1:Nat):Int):=b9 (by omega) (by omega)
 by_cases cc:b-a<50
 ·rw[aF cc]at c4;have oe:decide (((b-a:Nat):Int)<50)=true:=b1;repeat' first|((first|refine mx [11,17,23] kq ?_|refine ad ?_);simp only[go_sem,Fv,bT,oe])|refine af ?_|fail
  rw[<-c4];exact tT (m4 _ _ _) (.bool _) _ ⟨rfl,rfl⟩
 have oe:decide (((b-a:Nat):Int)<50)=false:=cg;rw[az cc]at c4;have fV:=eU (d:=E) (show i<E.size by omega)
 have lV:=eU (d:=E) (show(i-1)<E.size by omega)
 have gd:=mH (d:=E) (show i<E.size by omega) (show(i-1)<E.size by omega)
 have sl:=nf E h2 (show i<n by omega)
 have x6:(Sort.swp E i (i-1)).size=n:=by rw[m1];exact h2
 by_cases gZ:i-a>=2
 ·have kg:decide (2<=((i-a:Nat):Int))=true:=b1;simp only[aF gZ]at c4;repeat' first|((first|refine mx [11,17,23] kq ?_|refine ad ?_);simp only[go_sem,Fv,bT,oe,aJ,hs,fV,lV,gd,sl,WD,WE,kg,eE,fF,h2])|refine af ?_|fail
  generalize Sort.swp E i (i-1)=px at *;refine jY (ι:=Array dB) (fun _=>[(0,.osl 1 aE v 0 n lc),(1,.int .i64 a),(2,.int .i64 b),(3,.func fn fs cs),(8,.bool false),(9,.int .i64 i),(10,.int .i64 ((5-(s+1):Nat):Int))]) (fun X=>ai H aE (.cells v (dx X))) (fun X=>X=Sort.shiftDown lt (i-1) px∧X.size=n) ?_ ?_
  ·refine b5 (ι:=Nat×Array dB) (fun z=>[(0,.osl 1 aE v 0 n lc),(1,.int .i64 a),(2,.int .i64 b),(3,.func fn fs cs),(8,.bool false),(9,.int .i64 i),(10,.int .i64 ((5-(s+1):Nat):Int)),(11,.int .i64 z.1)]) (fun z=>ai H aE (.cells v (dx z.2))) (fun z=>Sort.shiftDown lt z.1 z.2=Sort.shiftDown lt (i-1) px∧z.2.size=n∧z.1<n) (fun z=>z.1) (i-1,px) ⟨rfl,x6,by simp only;omega⟩ ?_ rfl ?_
   ·simp[go_sem]
   rintro⟨j,X⟩ ⟨k1,k2,k3⟩;simp only at k1 k2 k3 ⊢;cases j with
   |zero=>
    have uX:decide (1<=((0:Nat):Int))=false:=rfl;have aJT:decide ((1:Int)<=0)=false:=rfl;rw[Sort.shiftDown]at k1;repeat' first|((first|refine mx [11,17,23] kq ?_|refine ad ?_);simp only[go_sem,uX,aJT])|refine af ?_|fail
    exact⟨X,⟨k1,k2⟩,rfl⟩
   |succ j=>
    have uX:decide (1<=((j+1:Nat):Int))=true:=b1;have hM:IntKind.i64.wrap (((j+1:Nat):Int)-1)=((j:Nat):Int):=b9 (by omega) (by omega)
    have x3:=eU (d:=X) (show(j+1)<X.size by omega)
    have x4:=eU (d:=X) (show j<X.size by omega)
    have FM:=mH (d:=X) (show(j+1)<X.size by omega) (show j<X.size by omega)
    have GB:=nf X k2 (show j+1<n by omega)
    rw[Sort.shiftDown]at k1;repeat' first|((first|refine mx [11,17,23] kq ?_|refine ad ?_);simp only[go_sem,uX,aJ,hs,x3,x4,hM,eE,fF,k2])|refine af ?_|fail
    refine n8 an ?_;simp only[go_sem,al];cases cV:lt X[j+1]! X[j]! with
    |true=>
     rw[cV,az (by simp)]at k1
     repeat' first|((first|refine mx [11,17,23] kq ?_|refine ad ?_);simp only[go_sem,cV,aJ,hs,x3,x4,FM,GB,hM,eE,fF,k2])|refine af ?_|fail
     exact⟨(j,Sort.swp X (j+1) j),⟨k1,by simp only[m1];exact k2,by simp only;omega⟩,nW _,rfl,rfl⟩
    |false=>
     simp only[cV,s3,dI]at k1;repeat' first|((first|refine mx [11,17,23] kq ?_|refine ad ?_);simp only[go_sem,cV])|refine af ?_|fail
     exact⟨X,⟨k1,k2⟩,rfl⟩
  rintro jU ⟨au,E4⟩;rw[<-au]at c4;by_cases cI:b-i>=2
  ·rw[aF cI]at c4;have ec:decide (2<=((b-i:Nat):Int))=true:=b1;repeat' first|((first|refine mx [11,17,23] kq ?_|refine ad ?_);simp only[go_sem,dL,ec,gH])|refine af ?_|fail
   refine b5 (ι:=Nat×Array dB) (fun z=>[(0,.osl 1 aE v 0 n lc),(1,.int .i64 a),(2,.int .i64 b),(3,.func fn fs cs),(8,.bool false),(9,.int .i64 i),(10,.int .i64 ((5-(s+1):Nat):Int)),(12,.int .i64 z.1)]) (fun z=>ai H aE (.cells v (dx z.2)))
    (fun z=>Sort.shiftUp lt b z.1 z.2=Sort.shiftUp lt b (i+1) jU∧z.2.size=n∧i<z.1) (fun z=>b-z.1) (i+1,jU) ⟨rfl,E4,nW _⟩ ?_ rfl ?_
   ·simp[go_sem]
   rintro⟨j,X⟩ ⟨k1,k2,k3⟩;simp only at k1 k2 k3 ⊢;rw[Sort.shiftUp]at k1;by_cases aw:j<b
   ·rw[aF aw]at k1;have kg:decide ((j:Int)<(b:Int))=true:=b1;have hM:IntKind.i64.wrap ((j:Int)-1)=((j-1:Nat):Int):=b9 (by omega) (by omega)
    have jt:IntKind.i64.wrap ((j:Int)+1)=((j+1:Nat):Int):=b9 (by omega) (by omega)
    have x3:=eU (d:=X) (show j<X.size by omega)
    have x4:=eU (d:=X) (show(j-1)<X.size by omega)
    have FM:=mH (d:=X) (show j<X.size by omega) (show(j-1)<X.size by omega)
    have GB:=nf X k2 (show j<n by omega)
    repeat' first|((first|refine mx [11,17,23] kq ?_|refine ad ?_);simp only[go_sem,kg,aJ,hs,x3,x4,hM,eE,fF,k2])|refine af ?_|fail
    refine n8 an ?_;simp only[go_sem,al];cases cV:lt X[j]! X[j-1]! with
    |true=>
     rw[cV,az (by simp)]at k1
     repeat' first|((first|refine mx [11,17,23] kq ?_|refine ad ?_);simp only[go_sem,cV,aJ,hs,x3,x4,FM,GB,hM,jt,eE,fF,k2])|refine af ?_|fail
     exact⟨(j+1,Sort.swp X j (j-1)),⟨k1,by simp only[m1];exact k2,by simp only;omega⟩,by simp only;omega,rfl,rfl⟩
    |false=>
     simp only[cV,s3,dI]at k1;rw[<-k1]at c4;repeat' first|((first|refine mx [11,17,23] kq ?_|refine ad ?_);simp only[go_sem,cV,FR])|refine af ?_|fail
     exact⟨(s,i,X),⟨c4,k2,h3,h4,by simp only;omega⟩,nW _,⟨rfl,rfl⟩,rfl⟩
   ·rw[az aw]at k1;rw[<-k1]at c4;have kg:decide ((j:Int)<(b:Int))=false:=cg;repeat' first|((first|refine mx [11,17,23] kq ?_|refine ad ?_);simp only[go_sem,kg,FR])|refine af ?_|fail
    exact⟨(s,i,X),⟨c4,k2,h3,h4,by simp only;omega⟩,nW _,⟨rfl,rfl⟩,rfl⟩
  ·rw[az cI]at c4;have ec:decide (2<=((b-i:Nat):Int))=false:=cg;have k2:=E4;repeat' first|((first|refine mx [11,17,23] kq ?_|refine ad ?_);simp only[go_sem,dL,ec,FR])|refine af ?_|fail
   exact⟨(s,i,jU),⟨c4,k2,h3,h4,by simp only;omega⟩,nW _,⟨rfl,rfl⟩,rfl⟩
 ·have kg:decide (2<=((i-a:Nat):Int))=false:=cg;simp only[az gZ]at c4;by_cases cI:b-i>=2
  ·rw[aF cI]at c4;have ec:decide (2<=((b-i:Nat):Int))=true:=b1;repeat' first|((first|refine mx [11,17,23] kq ?_|refine ad ?_);simp only[go_sem,Fv,bT,oe,aJ,hs,fV,lV,gd,sl,WD,WE,kg,eE,fF,h2,dL,ec,gH])|refine af ?_|fail
   refine b5 (ι:=Nat×Array dB) (fun z=>[(0,.osl 1 aE v 0 n lc),(1,.int .i64 a),(2,.int .i64 b),(3,.func fn fs cs),(8,.bool false),(9,.int .i64 i),(10,.int .i64 ((5-(s+1):Nat):Int)),(12,.int .i64 z.1)]) (fun z=>ai H aE (.cells v (dx z.2)))
    (fun z=>Sort.shiftUp lt b z.1 z.2=Sort.shiftUp lt b (i+1) (Sort.swp E i (i-1))∧z.2.size=n∧i<z.1) (fun z=>b-z.1) (i+1,(Sort.swp E i (i-1))) ⟨rfl,x6,nW _⟩ ?_ rfl ?_
   ·simp[go_sem]
   rintro⟨j,X⟩ ⟨k1,k2,k3⟩;simp only at k1 k2 k3 ⊢;rw[Sort.shiftUp]at k1;by_cases aw:j<b
   ·rw[aF aw]at k1;have kg:decide ((j:Int)<(b:Int))=true:=b1;have hM:IntKind.i64.wrap ((j:Int)-1)=((j-1:Nat):Int):=b9 (by omega) (by omega)
    have jt:IntKind.i64.wrap ((j:Int)+1)=((j+1:Nat):Int):=b9 (by omega) (by omega)
    have x3:=eU (d:=X) (show j<X.size by omega)
    have x4:=eU (d:=X) (show(j-1)<X.size by omega)
    have FM:=mH (d:=X) (show j<X.size by omega) (show(j-1)<X.size by omega)
    have GB:=nf X k2 (show j<n by omega)
    repeat' first|((first|refine mx [11,17,23] kq ?_|refine ad ?_);simp only[go_sem,kg,aJ,hs,x3,x4,hM,eE,fF,k2])|refine af ?_|fail
    refine n8 an ?_;simp only[go_sem,al];cases cV:lt X[j]! X[j-1]! with
    |true=>
     rw[cV,az (by simp)]at k1
     repeat' first|((first|refine mx [11,17,23] kq ?_|refine ad ?_);simp only[go_sem,cV,aJ,hs,x3,x4,FM,GB,hM,jt,eE,fF,k2])|refine af ?_|fail
     exact⟨(j+1,Sort.swp X j (j-1)),⟨k1,by simp only[m1];exact k2,by simp only;omega⟩,by simp only;omega,rfl,rfl⟩
    |false=>
     simp only[cV,s3,dI]at k1;rw[<-k1]at c4;repeat' first|((first|refine mx [11,17,23] kq ?_|refine ad ?_);simp only[go_sem,cV,FR])|refine af ?_|fail
     exact⟨(s,i,X),⟨c4,k2,h3,h4,by simp only;omega⟩,nW _,⟨rfl,rfl⟩,rfl⟩
   ·rw[az aw]at k1;rw[<-k1]at c4;have kg:decide ((j:Int)<(b:Int))=false:=cg;repeat' first|((first|refine mx [11,17,23] kq ?_|refine ad ?_);simp only[go_sem,kg,FR])|refine af ?_|fail
    exact⟨(s,i,X),⟨c4,k2,h3,h4,by simp only;omega⟩,nW _,⟨rfl,rfl⟩,rfl⟩
  ·exfalso;omega
end
end
section
def Kd:List cR:=[.pure 0,.pure 0,.pure 0,.free,.pure 0,.pure 0,.eff [false,false,false,false,false]]
attribute [go_sem] Kd
theorem aDm(s y:I)(f1 f2 f3:Bool)(t:ba)(H:ab):aY Tryz.prog 273 [.agg [],s,g9 f1 f2 f3 t] H (oF ⟨3,0⟩):=by
 refine bh Tryz.func273 ?_;unfold g9 jd;refine aT ?_;exact bo (.refl _)
theorem aCp(b f1 f2 f3:Bool)(l:List aB)(t:ba)(ae:t.call.path.length<=1048576)(aj:t.call.to.length<=1048576)(hl:l.length<=1073741824)(H:ab):
  aY Tryz.prog 275 [cJ t.call,.sl b (l.map aW),g9 f1 f2 f3 t] H (oF (mW t.has (ij l t.call))):=by
 refine bh Tryz.func275 ?_;have gE:=aDk b l t.call ae aj hl;obtain⟨cp,mK⟩:∃cp,ij l t.call=cp:=⟨_,rfl⟩;rw[mK]at gE ⊢;have gD:cp.length<=1000:=by
  rw[<-mK];have:=Zj l t.call;omega
 unfold g9 jd;simp only[cJ]at gE ⊢;repeat' first|(refine ad ?_;simp only[go_sem])|refine af ?_|fail
 refine b5 (ι:=Nat) (fun k=>[(5,.ref (H.length+1) 0 0),(6,.ref (H.length+2) 0 0),(11,.sl false (cp.map bj)),(12,.int .i64 cp.length),(13,.int .i64 k)]) (fun _=>H++[.cells 0 (cJ t.call).cells,.cells 0 (g9 f1 f2 f3 t).cells,.cells 0 [.int .i64 0,.int .i64 0]]) (fun k=>k<=cp.length∧mW t.has cp=mW t.has (cp.drop k)) (fun k=>cp.length-k) 0 ⟨bG _,rfl⟩ ?_ rfl ?_
 ·simp[go_sem]
 ·rintro k ⟨hk,he⟩;by_cases ak:k<cp.length
  ·have aJ:=dg bj ak;have aH:decide ((k:Int)<(cp.length:Int))=true:=b1;have hw:IntKind.i64.wrap ((k:Int)+1)=((k+1:Nat):Int):=by rw[cB];omega
   have al:=Gz f1 t.has cp[k];rw[St]at al;rw[eo ak]at he;cases ah:t.has.contains cp[k]with
   |true=>
    rw[Sn ah]at he;rw[ah]at al;repeat' first|(refine ad ?_;simp only[go_sem,aJ,aH,cJ,g9,jd,bj])|refine af ?_|fail
    first
     |exact⟨k+1,⟨ak,he⟩,by omega,bH _ hw⟩
     |exact⟨k+1,⟨ak,he⟩,by omega,bH _ hw,rfl⟩
   |false=>
    rw[Lv ah]at he;rw[ah]at al;rw[he];repeat' first|(refine ad ?_;simp only[go_sem,aJ,aH,cJ,g9,jd,bj])|refine af ?_|fail
    exact bo (.refl _)
  ·have g3:k=cp.length:=by omega
   subst g3;have aH:decide ((cp.length:Int)<(cp.length:Int))=false:=by simp
   rw[l7]at he;rw[he];refine b0 (hC cJ.eq_1 (hC g9.eq_1 jd.eq_1)) ?_;exact bo (.refl _)
theorem aCq(b f1 f2 f3 f4:Bool)(l:List aB)(names:List aM)(t:ba)(hl:l.length<=1073741824)(ag:names.length<=16)(H:ab):
  aY Tryz.prog 274 [.agg [.sl f4 (names.map I.str)],.sl b (l.map aW),g9 f1 f2 f3 t] H (oF (sZ l names t)):=by
 refine bh Tryz.func274 ?_;unfold g9 jd;rcases ah:t.has with _|⟨here,_|⟨h2,hs⟩⟩
 ·rw[sZ,ah];simp only[im];refine aT ?_;exact bo (.refl _)
 ·have ar:decide (((1:Nat):Int)=0)=false:=rfl;have au:((0:Int)<((1:Nat):Int))=True:=bJ (by omega)
  have bd:decide ((1:Int)<((1:Nat):Int))=false:=rfl;have an:=G8 b f4 l names hl;obtain⟨⟨d,e⟩,rm⟩:∃r,fg l names=r:=⟨_,rfl⟩;rw[sZ,ah];simp only[rm]at an ⊢;simp only[sT]at an;have tx:=sX d;simp only[dn,im];by_cases aC:0<=t.at_
  ·have wO:decide (0<=t.at_)=true:=cF aC;rw[aF aC];by_cases ak:t.at_.toNat<names.length
   ·have gr:decide (t.at_<(names.length:Int))=true:=b1;have o5:(0<=t.at_∧t.at_<(names.length:Int))=True:=bJ ⟨aC,by omega⟩
    have aJ:=dg I.str ak;rw[c0 ak];simp only[lb];have iH:=HF b l here names[t.at_.toNat] hl;cases al:fp l here names[t.at_.toNat]with
    |none=>
     rw[al]at iH;simp only[xb,Bf,Be,A8]at iH ⊢;by_cases lX:e=0
     ·subst lX;cases jr:dy d with
      |false=>
       rw[jr]at tx;rw[az (by rintro⟨_,h,_⟩;cases h)]
       refine b0 (hC bj.eq_1 @pt) ?_;exact bo (.refl _)
      |true=>
       rw[jr]at tx;by_cases mg:d=here
       ·rw[az (fun h=>h.2.2 mg)]
        have a2:decide (d=here)=true:=cF mg;repeat' first|(refine ad ?_;simp only[go_sem,ar,au,bd,bj,wO,gr,o5,aJ,a2,pt])|refine af ?_|fail
        exact bo (.refl _)
       ·rw[aF ⟨rfl,rfl,mg⟩];have a2:decide (d=here)=false:=b8 mg;refine b0 bj.eq_1 ?_;exact bo (.refl _)
     ·rw[az (fun h=>lX h.1)]
      have Ct:decide (e=0)=false:=b8 lX;refine b0 bj.eq_1 ?_;exact bo (.refl _)
    |some n=>
     rw[al]at iH;have ky:=sX n.id;simp only[xb,rY,oJ,xp]at iH ⊢;cases fl:dy n.id with
     |true=>
      rw[fl]at ky;rw[aF rfl];refine b0 bj.eq_1 ?_;exact bo (.refl _)
     |false=>
      rw[fl]at ky;rw[az (fun h=>by cases h)]
      by_cases lX:e=0
      ·subst lX;cases jr:dy d with
       |false=>
        rw[jr]at tx;rw[az (by rintro⟨_,h,_⟩;cases h)]
        refine b0 bj.eq_1 ?_;exact bo (.refl _)
       |true=>
        rw[jr]at tx;by_cases mg:d=here
        ·rw[az (fun h=>h.2.2 mg)]
         have a2:decide (d=here)=true:=cF mg;repeat' first|(refine ad ?_;simp only[go_sem,ar,au,bd,bj,wO,gr,o5,aJ,a2,pt])|refine af ?_|fail
         exact bo (.refl _)
        ·rw[aF ⟨rfl,rfl,mg⟩];have a2:decide (d=here)=false:=b8 mg;refine b0 bj.eq_1 ?_;exact bo (.refl _)
      ·rw[az (fun h=>lX h.1)]
       have Ct:decide (e=0)=false:=b8 lX;refine b0 bj.eq_1 ?_;exact bo (.refl _)
   ·have gr:decide (t.at_<(names.length:Int))=false:=cg;rw[yW (by omega)]
    simp only[Option.bind_none];by_cases lX:e=0
    ·subst lX;cases jr:dy d with
     |false=>
      rw[jr]at tx;rw[az (by rintro⟨_,h,_⟩;cases h)]
      refine b0 bj.eq_1 ?_;exact bo (.refl _)
     |true=>
      rw[jr]at tx;by_cases mg:d=here
      ·rw[az (fun h=>h.2.2 mg)]
       have a2:decide (d=here)=true:=cF mg;repeat' first|(refine ad ?_;simp only[go_sem,ar,au,bd,bj,wO,gr,a2,pt])|refine af ?_|fail
       exact bo (.refl _)
      ·rw[aF ⟨rfl,rfl,mg⟩];have a2:decide (d=here)=false:=b8 mg;refine b0 bj.eq_1 ?_;exact bo (.refl _)
    ·rw[az (fun h=>lX h.1)]
     have Ct:decide (e=0)=false:=b8 lX;refine b0 bj.eq_1 ?_;exact bo (.refl _)
  ·have wO:decide (0<=t.at_)=false:=b8 aC;rw[az aC];simp only[Option.bind_none];by_cases lX:e=0
   ·subst lX;cases jr:dy d with
    |false=>
     rw[jr]at tx;rw[az (by rintro⟨_,h,_⟩;cases h)]
     refine b0 bj.eq_1 ?_;exact bo (.refl _)
    |true=>
     rw[jr]at tx;by_cases mg:d=here
     ·rw[az (fun h=>h.2.2 mg)]
      have a2:decide (d=here)=true:=cF mg;repeat' first|(refine ad ?_;simp only[go_sem,ar,au,bd,bj,wO,a2,pt])|refine af ?_|fail
      exact bo (.refl _)
     ·rw[aF ⟨rfl,rfl,mg⟩];have a2:decide (d=here)=false:=b8 mg;refine b0 bj.eq_1 ?_;exact bo (.refl _)
   ·rw[az (fun h=>lX h.1)]
    have Ct:decide (e=0)=false:=b8 lX;refine b0 bj.eq_1 ?_;exact bo (.refl _)
 ·rw[sZ,ah];have ar:decide (((hs.length+2:Nat):Int)=0)=false:=cg;have au:((0:Int)<((hs.length+2:Nat):Int))=True:=bJ (by omega)
  have bd:decide ((1:Int)<((hs.length+2:Nat):Int))=true:=b1;simp only[dn];refine b0 bj.eq_1 ?_;exact bo (.refl _)
theorem aDn(b f1 f2 f3:Bool)(l:List aB)(t:ba)(ae:t.call.path.length<=1048576)(aj:t.call.to.length<=1048576)(hl:l.length<=1073741824)(H:ab):
  aY Tryz.prog 27 [.sl b (l.map aW),g9 f1 f2 f3 t] H (oF (fM l t)):=by
 refine bh Tryz.func27 ?_;unfold g9 jd;unfold fM;cases mh:t.ended with
 |true=>
  rw[aF rfl];refine aT ?_;exact bo (.refl _)
 |false=>
  rw[az (fun h=>by cases h)]
  cases j0:t.done with
  |true=>
   rw[aF rfl];cases z0:t.has with
   |nil=>
    simp only[im];by_cases hk:t.call.kind=12
    ·have ar:decide (t.call.kind=12)=true:=cF hk;rw[aF hk];refine bW ?_;exact bo (.refl _)
    ·have ar:decide (t.call.kind=12)=false:=b8 hk;rw[az hk];refine bW ?_;exact bo (.refl _)
   |cons k cp=>
    have au:((0:Int)<((cp.length+1:Nat):Int))=True:=bJ (by omega)
    have bd:decide ((0:Int)<((cp.length+1:Nat):Int))=true:=b1;simp only[dn];refine b0 bj.eq_1 ?_;exact bo (.refl _)
  |false=>
   rw[az (fun h=>by cases h)]
   have hw:=MV t.call ae;unfold zv at hw;cases iX:fC t.call with
   |true=>
    rw[iX,aF rfl]at hw;rw[aF rfl];simp only[cJ]at hw;have ag:=fun H=>aCp b f1 f2 f3 l t ae aj hl H
    unfold g9 jd at ag;simp only[cJ,mh,j0,oF]at ag;repeat' first|((first|refine lp (ag _) (aA) ?_|refine lq (fun _=>ag _) (aA) ?_|refine lr (fun _=>ag _) (aA) ?_|refine mx [9] Kd ?_|refine ad ?_);simp only[go_sem,oF])|refine af ?_|fail
    exact bo (.refl _)
   |false=>
    rw[iX,az (fun h=>by cases h)]at hw
    rw[az (fun h=>by cases h)]
    cases CK:gR t.call with
    |true=>
     rw[CK,aF rfl]at hw;rw[aF rfl];simp only[cJ]at hw;have ag:=fun H=>aCq b f1 f2 f3 false l (hr t.call) t hl (PL _) H
     unfold g9 jd at ag;simp only[cJ,mh,j0,oF]at ag;repeat' first|((first|refine lp (ag _) (aA) ?_|refine lq (fun _=>ag _) (aA) ?_|refine lr (fun _=>ag _) (aA) ?_|refine mx [9] Kd ?_|refine ad ?_);simp only[go_sem,oF])|refine af ?_|fail
     exact bo (.refl _)
    |false=>
     rw[CK,az (fun h=>by cases h)]at hw
     rw[az (fun h=>by cases h)]
     simp only[cJ]at hw;have ag:=fun H=>aDm (.sl b (l.map aW)) .top f1 f2 f3 t H
     unfold g9 jd at ag;simp only[cJ,mh,j0,oF]at ag;repeat' first|((first|refine lp (ag _) (aA) ?_|refine lq (fun _=>ag _) (aA) ?_|refine lr (fun _=>ag _) (aA) ?_|refine mx [9] Kd ?_|refine ad ?_);simp only[go_sem,oF])|refine af ?_|fail
     exact bo (.refl _)
end
end Go.Proofs.YthafnbmdmfoobaaGreatDoor

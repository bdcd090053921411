/- What the functions of this seat answer (14 of 40). No condition. -/
import Derived.Test.YthafnbmdmfoobaaGreatDoorWorkAK
import Derived.Sort.AssemblyPlain
set_option linter.unusedSimpArgs false
set_option linter.unusedVariables false
set_option linter.unusedSectionVars false
set_option maxRecDepth 100000
set_option maxHeartbeats 16000000
namespace Go.Proofs.YthafnbmdmfoobaaGreatDoor
section
abbrev dB:={s:aM // s.length<=1073741824}
instance:Inhabited dB:=⟨⟨[],by simp⟩⟩
def dx(d:Array dB):List I:=d.toList.map fun x=>I.str x.1
theorem fF(d:Array dB):(dx d).length=d.size:=by simp[dx]
theorem eU{d:Array dB}{i:Nat}(h:i<d.size):(dx d).getD i .top=.str (d[i]!).1:=by
 simp[dx,eP,h]
theorem Q4(cs:List I)(i:Nat)(x:I)(h:i<cs.length):dw cs i [x]=cs.set i x:=by
 rw[K7,aF h];simp[dw]
theorem Tx(d:Array dB)(i:Nat)(x:dB)(h:i<d.size):dw (dx d) i [.str x.1]=dx (d.setIfInBounds i x):=by
 rw[Q4 _ _ _ (by rw[fF];exact h)]
 simp[dx,Array.toList_setIfInBounds,List.map_set]
theorem m1(d:Array dB)(i j:Nat):(Sort.swp d i j).size=d.size:=by simp[Sort.swp]
theorem mH{d:Array dB}{i j:Nat}(hi:i<d.size)(aw:j<d.size):dw (dw (dx d) i [.str (d[j]!).1]) j [.str (d[i]!).1]=dx (Sort.swp d i j):=by
 rw[Tx _ _ _ hi,Tx _ _ _ (by simpa using aw)];rfl
theorem aFP{cs:List I}{i:Nat}{x:I}(h:i<cs.length):(dw cs i [x]).length=cs.length:=by rw[Q4 _ _ _ h,gj]
theorem nf(d:Array dB){i n:Nat}(ag:d.size=n)(h:i<n)(x:I):(dw (dx d) i [x]).length=n:=by rw[aFP (by rw[fF,ag];exact h),fF,ag]
theorem m4(n v:Nat)(d:Array dB):dp n (.cells v (dx d)):=fun x J=>by
 obtain⟨y,_,rfl⟩:=bP.1 J;exact .str _
def qX(P:Program)(f:I)(c:Go.Proofs.YthafnbmdmfoobaaGreatDoor.dB->Go.Proofs.YthafnbmdmfoobaaGreatDoor.dB->Int):Prop:=∀a b H,h6 P f [.str a.1,.str b.1] H (fun v H'=>v=.int .i64 (c a b)∧H'=H)
theorem n8{P:Program}{g:Bool}{f:I}{c:Go.Proofs.YthafnbmdmfoobaaGreatDoor.dB->Go.Proofs.YthafnbmdmfoobaaGreatDoor.dB->Int}{a b:Go.Proofs.YthafnbmdmfoobaaGreatDoor.dB}{H:ab}{K:I->Prop}(h:qX P f c)(hk:K (.int .i64 (c a b))):ou P g f [.str a.1,.str b.1] H K:=⟨_,fun _=>h a b H,hk⟩
def R8:List cR:=[.free,.free,.free,.free,.free,.free,.pure 0,.pure 0,.free,.free,.pure 0,.pure 0,.pure 0,.eff [false,false,true,false,false],.pure 0,.eff [false,false]]
def GD:List cR:=[.free,.free,.free,.free,.free,.free,.free,.free,.pure 0,.pure 0,.free,.free,.pure 0,.pure 0,.pure 0,.eff [false,false,true,false,false],.pure 0,.eff [false,false]]
def tS:List cR:=[.free,.free,.free,.free,.free,.free,.free,.free,.free,.free,.free,.free,.pure 0,.pure 0,.free,.free,.free,.free,.pure 0,.pure 0,.pure 0,.eff [false,false,true,false,false],.pure 0,.eff [false,false]]
def R9:List cR:=[.free,.free,.free,.free,.free,.free,.free,.free,.free,.free,.pure 0,.pure 0,.free,.free,.pure 0,.pure 0,.pure 0,.eff [false,false,true,false,false],.pure 0,.eff [false,false]]
attribute [go_sem] R8 GD tS R9
theorem aFm{d:Array dB}{a b n lc aE v:Nat}(ag:n=d.size)(hl:n<=1073741824)(aa:b<=n)(gB:1<=b)(F:I)(H:ab)(ah:ao H aE=.cells v (dx d)):
  c5 Tryz.prog 245 [.osl 1 aE v 0 n lc,.int .i64 a,.int .i64 b,F] H (fun r H'=>r=.a0 []∧H'=ai H aE (.cells v (dx (Sort.reverseRange d a b)))):=by
 refine eJ Tryz.func245 ?_;have aJ:=fun b=>m2 ah trivial b
 have hs:=nw H aE;have hw:IntKind.i64.wrap ((b:Int)-1)=((b-1:Nat):Int):=b9 (by omega) (by omega)
 repeat' first|(refine ad ?_;simp only[go_sem,hw])|refine af ?_|fail
 refine b5 (ι:=Nat×Nat×Array dB) (fun s=>[(0,.osl 1 aE v 0 n lc),(8,.int .i64 s.1),(9,.int .i64 s.2.1)]) (fun s=>ai H aE (.cells v (dx s.2.2)))
  (fun s=>Sort.reverseLoop s.1 s.2.1 s.2.2=Sort.reverseRange d a b∧s.2.2.size=n∧s.2.1<n) (fun s=>s.2.1-s.1) (a,b-1,d) ⟨rfl,ag.symm,by simp only;omega⟩ ?_ (oY ah trivial).symm ?_
 ·simp[go_sem]
 rintro⟨i,j,E⟩ ⟨h1,h2,h3⟩;simp only at h1 h2 h3 ⊢;by_cases ak:i<j
 ·have aH:decide ((i:Int)<(j:Int))=true:=b1;have fV:=eU (d:=E) (show i<E.size by omega)
  have lV:=eU (d:=E) (show j<E.size by omega)
  have gd:=mH (d:=E) (show i<E.size by omega) (show j<E.size by omega)
  have ca:IntKind.i64.wrap ((i:Int)+1)=((i+1:Nat):Int):=b9 (by omega) (by omega)
  have bT:IntKind.i64.wrap ((j:Int)-1)=((j-1:Nat):Int):=b9 (by omega) (by omega)
  have sl:=nf E h2 (show i<n by omega)
  repeat' first|((first|refine mx [3] R8 ?_|refine ad ?_);simp only[go_sem,aH,aJ,hs,fV,lV,gd,ca,bT,eE,fF,h2,sl])|refine af ?_|fail
  rw[Sort.reverseLoop,aF ak]at h1;exact⟨(i+1,j-1,Sort.swp E i j),⟨h1,by simp only[m1];exact h2,by simp only;omega⟩,by simp only;omega,⟨rfl,rfl⟩,rfl⟩
 ·have aH:decide ((i:Int)<(j:Int))=false:=cg;repeat' first|(refine ad ?_;simp only[go_sem,aH])|refine af ?_|fail
  rw[Sort.reverseLoop,az ak]at h1;rw[<-h1];exact lS (m4 _ _ _) _ ⟨rfl,rfl⟩
section
variable {lt:dB->dB->Bool} {c:dB->dB->Int} {fn:Fn} {fs cs:List I}
theorem Ty(al:∀x y,decide (c x y<0)=lt x y)(an:qX Tryz.prog (.func fn fs cs) c){d:Array dB}{a b n lc aE v:Nat}(ag:n=d.size)(hl:n<=1073741824)(aa:b<=n)(c3:a<=b)(H:ab)(ah:ao H aE=.cells v (dx d)):
  c5 Tryz.prog 241 [.osl 1 aE v 0 n lc,.int .i64 a,.int .i64 b,.func fn fs cs] H (fun r H'=>r=.a0 []∧H'=ai H aE (.cells v (dx (Sort.insertionSort lt d a b)))):=by
 refine eJ Tryz.func241 ?_;have aJ:=fun b=>m2 ah trivial b
 have hs:=nw H aE;have hw:IntKind.i64.wrap ((a:Int)+1)=((a+1:Nat):Int):=b9 (by omega) (by omega)
 repeat' first|(refine ad ?_;simp only[go_sem,hw])|refine af ?_|fail
 refine b5 (ι:=Nat×Array dB) (fun s=>[(0,.osl 1 aE v 0 n lc),(1,.int .i64 a),(2,.int .i64 b),(3,.func fn fs cs),(8,.int .i64 s.1)]) (fun s=>ai H aE (.cells v (dx s.2)))
  (fun s=>Sort.insOuter lt a b s.1 s.2=Sort.insertionSort lt d a b∧s.2.size=n∧a<s.1) (fun s=>b-s.1) (a+1,d) ⟨rfl,ag.symm,nW _⟩ ?_ (oY ah trivial).symm ?_
 ·simp[go_sem]
 rintro⟨i,E⟩ ⟨h1,h2,h3⟩;simp only at h1 h2 h3 ⊢;by_cases ak:i<b
 ·rw[Sort.insOuter,aF ak]at h1;have aH:decide ((i:Int)<(b:Int))=true:=b1;have ca:IntKind.i64.wrap ((i:Int)+1)=((i+1:Nat):Int):=b9 (by omega) (by omega)
  repeat' first|(refine ad ?_;simp only[go_sem,aH])|refine af ?_|fail
  refine b5 (ι:=Nat×Array dB) (fun s=>[(0,.osl 1 aE v 0 n lc),(1,.int .i64 a),(2,.int .i64 b),(3,.func fn fs cs),(8,.int .i64 i),(9,.int .i64 s.1)]) (fun s=>ai H aE (.cells v (dx s.2)))
   (fun s=>Sort.insInner lt a s.1 s.2=Sort.insInner lt a i E∧s.2.size=n∧s.1<=i) (fun s=>s.1) (i,E) ⟨rfl,h2,bk _⟩ ?_ rfl ?_
  ·simp[go_sem]
  rintro⟨j,D⟩ ⟨k1,k2,k3⟩;simp only at k1 k2 k3 ⊢;by_cases aw:a<j
  ·obtain⟨p,rfl⟩:∃p,j=p+1:=⟨j-1,by omega⟩
   have ec:decide ((a:Int)<((p+1:Nat):Int))=true:=b1;have fV:=eU (d:=D) (show p+1<D.size by omega)
   have lV:=eU (d:=D) (show p<D.size by omega)
   have gd:=mH (d:=D) (show p+1<D.size by omega) (show p<D.size by omega)
   have sl:=nf D k2 (show p+1<n by omega)
   have bT:IntKind.i64.wrap (((p+1:Nat):Int)-1)=((p:Nat):Int):=b9 (by omega) (by omega)
   rw[Sort.insInner]at k1;have sm:decide (p+1>a)=true:=cF aw;rw[sm,hG]at k1;repeat' first|((first|refine mx [6] GD ?_|refine ad ?_);simp only[go_sem,ec,aJ,hs,fV,lV,bT,eE,fF,k2])|refine af ?_|fail
   refine n8 an ?_;simp only[go_sem,al];cases cV:lt D[p+1]! D[p]! with
   |true=>
    rw[cV,aF rfl]at k1;repeat' first|((first|refine mx [6] GD ?_|refine ad ?_);simp only[go_sem,cV,aJ,hs,fV,lV,gd,bT,eE,fF,k2,sl])|refine af ?_|fail
    exact⟨(p,Sort.swp D (p+1) p),⟨k1,by simp only[m1];exact k2,by simp only;omega⟩,nW _,rfl,rfl⟩
   |false=>
    rw[cV,az (by simp)]at k1
    repeat' first|((first|refine mx [6] GD ?_|refine ad ?_);simp only[go_sem,cV,aJ,hs,ca])|refine af ?_|fail
    exact⟨(i+1,D),⟨by rw[<-k1]at h1;exact h1,k2,by simp only;omega⟩,by simp only;omega,rfl,rfl⟩
  ·have ec:decide ((a:Int)<(j:Int))=false:=cg;have k4:Sort.insInner lt a j D=D:=by
    cases j with
    |zero=>rfl
    |succ p=>rw[Sort.insInner,az (by rw[cg];simp)]
   rw[k4]at k1;repeat' first|((first|refine mx [6] GD ?_|refine ad ?_);simp only[go_sem,ec,aJ,hs,ca])|refine af ?_|fail
   exact⟨(i+1,D),⟨by rw[<-k1]at h1;exact h1,k2,by simp only;omega⟩,by simp only;omega,rfl,rfl⟩
 ·have aH:decide ((i:Int)<(b:Int))=false:=cg;repeat' first|(refine ad ?_;simp only[go_sem,aH])|refine af ?_|fail
  rw[Sort.insOuter,az ak]at h1;rw[<-h1];exact lS (m4 _ _ _) _ ⟨rfl,rfl⟩
theorem SL(al:∀x y,decide (c x y<0)=lt x y)(an:qX Tryz.prog (.func fn fs cs) c){d:Array dB}{lo hi f n lc aE v:Nat}(ag:n=d.size)(hl:n<=1073741824)(aa:f+hi<=n)(mj:lo<=n)(H:ab)(ah:ao H aE=.cells v (dx d)):
  c5 Tryz.prog 252 [.osl 1 aE v 0 n lc,.int .i64 lo,.int .i64 hi,.int .i64 f,.func fn fs cs] H (fun r H'=>r=.a0 []∧H'=ai H aE (.cells v (dx (Sort.siftDown lt hi f lo d)))):=by
 refine eJ Tryz.func252 ?_;have aJ:=fun b=>m2 ah trivial b
 have hs:=nw H aE;repeat' first|(refine ad ?_;simp only[go_sem])|refine af ?_|fail
 refine b5 (ι:=Nat×Array dB) (fun s=>[(0,.osl 1 aE v 0 n lc),(2,.int .i64 hi),(3,.int .i64 f),(4,.func fn fs cs),(10,.int .i64 s.1)]) (fun s=>ai H aE (.cells v (dx s.2)))
  (fun s=>Sort.siftDown lt hi f s.1 s.2=Sort.siftDown lt hi f lo d∧s.2.size=n∧s.1<=n) (fun s=>hi-s.1) (lo,d) ⟨rfl,ag.symm,mj⟩ ?_ (oY ah trivial).symm ?_
 ·simp[go_sem]
 rintro⟨r,E⟩ ⟨h1,h2,ax⟩;simp only at h1 h2 ax ⊢;rw[Sort.siftDown]at h1;by_cases cc:2 * r+1>=hi
 ·rw[dif_pos cc]at h1;have eW:IntKind.i64.wrap (2 * (r:Int))=((2 * r:Nat):Int):=b9 (by omega) (by omega)
  have ca:IntKind.i64.wrap (((2 * r:Nat):Int)+1)=((2 * r+1:Nat):Int):=b9 (by omega) (by omega)
  have aH:decide ((hi:Int)<=((2 * r+1:Nat):Int))=true:=b1;repeat' first|(refine ad ?_;simp only[go_sem,eW,ca,aH])|refine af ?_|fail
  rw[<-h1];exact lS (m4 _ _ _) _ ⟨rfl,rfl⟩
 have eW:IntKind.i64.wrap (2 * (r:Int))=((2 * r:Nat):Int):=b9 (by omega) (by omega)
 have ca:IntKind.i64.wrap (((2 * r:Nat):Int)+1)=((2 * r+1:Nat):Int):=b9 (by omega) (by omega)
 have bT:IntKind.i64.wrap (((2 * r+1:Nat):Int)+1)=((2 * r+2:Nat):Int):=b9 (by omega) (by omega)
 have dL:IntKind.i64.wrap ((f:Int)+((2 * r+1:Nat):Int))=((f+(2 * r+1):Nat):Int):=b9 (by omega) (by omega)
 have gH:IntKind.i64.wrap (((f+(2 * r+1):Nat):Int)+1)=((f+(2 * r+1)+1:Nat):Int):=b9 (by omega) (by omega)
 have hM:IntKind.i64.wrap ((f:Int)+(r:Int))=((f+r:Nat):Int):=b9 (by omega) (by omega)
 have jt:IntKind.i64.wrap ((f:Int)+((2 * r+2:Nat):Int))=((f+(2 * r+2):Nat):Int):=b9 (by omega) (by omega)
 have aH:decide ((hi:Int)<=((2 * r+1:Nat):Int))=false:=cg;have iS:=eU (d:=E) (show f+r<E.size by omega)
 have gc:=eU (d:=E) (show f+(2 * r+1)<E.size by omega)
 rw[dif_neg cc]at h1;by_cases cI:2 * r+1+1<hi
 ·have ec:decide (((2 * r+2:Nat):Int)<(hi:Int))=true:=b1;rw[show f+(2 * r+1)+1=f+(2 * r+2) by omega]at h1
  have IX:=eU (d:=E) (show f+(2 * r+2)<E.size by omega)
  rw[cF cI,hG]at h1;repeat' first|((first|refine mx [6] tS ?_|refine ad ?_);simp only[go_sem,aJ,hs,eW,ca,bT,dL,gH,hM,jt,aH,iS,gc,eE,fF,h2,ec,IX])|refine af ?_|fail
  refine n8 an ?_;simp only[go_sem,al];cases cV:lt E[f+(2 * r+1)]! E[f+(2 * r+2)]! with
  |true=>
   rw[cV,aF rfl,dif_pos (show 2 * r+2<hi by omega)]at h1
   repeat' first|((first|refine mx [6] tS ?_|refine ad ?_);simp only[go_sem,cV,aJ,hs,eW,ca,bT,dL,gH,hM,jt,aH,iS,gc,eE,fF,h2,ec,IX])|refine af ?_|fail
   refine n8 an ?_;simp only[go_sem,al];cases l0:lt E[f+r]! E[f+(2 * r+2)]! with
   |true=>
    rw[l0]at h1;have gd:=mH (d:=E) (show f+r<E.size by omega) (show f+(2 * r+2)<E.size by omega)
    have sl:=nf E h2 (show f+r<n by omega)
    repeat' first|((first|refine mx [6] tS ?_|refine ad ?_);simp only[go_sem,l0,aJ,hs,eW,ca,bT,dL,gH,hM,jt,aH,iS,gc,eE,fF,h2,IX,gd,sl])|refine af ?_|fail
    exact⟨(2 * r+2,Sort.swp E (f+r) (f+(2 * r+2))),⟨h1,by simp only[m1];exact h2,by simp only;omega⟩,by simp only;omega,rfl,rfl⟩
   |false=>
    rw[l0]at h1;repeat' first|((first|refine mx [6] tS ?_|refine ad ?_);simp only[go_sem,l0,aJ,hs,eW,ca,bT,dL,gH,hM,jt,aH,iS,gc,eE,fF,h2,IX])|refine af ?_|fail
    rw[<-(show E=Sort.siftDown lt hi f lo d from h1)]
    exact lS (m4 _ _ _) _ ⟨rfl,rfl⟩
  |false=>
   rw[cV,az (by simp)]at h1
   repeat' first|((first|refine mx [6] tS ?_|refine ad ?_);simp only[go_sem,cV,aJ,hs,eW,ca,bT,dL,gH,hM,jt,aH,iS,gc,eE,fF,h2,ec])|refine af ?_|fail
   refine n8 an ?_;simp only[go_sem,al];cases l0:lt E[f+r]! E[f+(2 * r+1)]! with
   |true=>
    rw[l0]at h1;have gd:=mH (d:=E) (show f+r<E.size by omega) (show f+(2 * r+1)<E.size by omega)
    have sl:=nf E h2 (show f+r<n by omega)
    repeat' first|((first|refine mx [6] tS ?_|refine ad ?_);simp only[go_sem,l0,aJ,hs,eW,ca,bT,dL,gH,hM,jt,aH,iS,gc,eE,fF,h2,gd,sl])|refine af ?_|fail
    exact⟨(2 * r+1,Sort.swp E (f+r) (f+(2 * r+1))),⟨h1,by simp only[m1];exact h2,by simp only;omega⟩,by simp only;omega,rfl,rfl⟩
   |false=>
    rw[l0]at h1;repeat' first|((first|refine mx [6] tS ?_|refine ad ?_);simp only[go_sem,l0,aJ,hs,eW,ca,bT,dL,gH,hM,jt,aH,iS,gc,eE,fF,h2])|refine af ?_|fail
    rw[<-(show E=Sort.siftDown lt hi f lo d from h1)]
    exact lS (m4 _ _ _) _ ⟨rfl,rfl⟩
 ·have ec:decide (((2 * r+2:Nat):Int)<(hi:Int))=false:=cg;rw[b8 cI,xj,az (by simp)]at h1
  repeat' first|((first|refine mx [6] tS ?_|refine ad ?_);simp only[go_sem,aJ,hs,eW,ca,bT,dL,gH,hM,jt,aH,iS,gc,eE,fF,h2,ec])|refine af ?_|fail
  refine n8 an ?_;simp only[go_sem,al];cases l0:lt E[f+r]! E[f+(2 * r+1)]! with
  |true=>
   rw[l0]at h1;have gd:=mH (d:=E) (show f+r<E.size by omega) (show f+(2 * r+1)<E.size by omega)
   have sl:=nf E h2 (show f+r<n by omega)
   repeat' first|((first|refine mx [6] tS ?_|refine ad ?_);simp only[go_sem,l0,aJ,hs,eW,ca,bT,dL,gH,hM,jt,aH,iS,gc,eE,fF,h2,gd,sl])|refine af ?_|fail
   exact⟨(2 * r+1,Sort.swp E (f+r) (f+(2 * r+1))),⟨h1,by simp only[m1];exact h2,by simp only;omega⟩,by simp only;omega,rfl,rfl⟩
  |false=>
   rw[l0]at h1;repeat' first|((first|refine mx [6] tS ?_|refine ad ?_);simp only[go_sem,l0,aJ,hs,eW,ca,bT,dL,gH,hM,jt,aH,iS,gc,eE,fF,h2])|refine af ?_|fail
   rw[<-(show E=Sort.siftDown lt hi f lo d from h1)]
   exact lS (m4 _ _ _) _ ⟨rfl,rfl⟩
theorem XG(hi f:Nat):∀(m r:Nat) (d:Array dB),hi-r<=m->(Sort.siftDown lt hi f r d).size=d.size:=by
 intro m;induction m with
 |zero=>intro r d h;rw[Sort.siftDown,dif_pos (by omega)]
 |succ m ay=>
  intro r d h;rw[Sort.siftDown];repeat' split
  all_goals first|rfl|(rw[ay _ _ (by omega),m1])
theorem aDB(al:∀x y,decide (c x y<0)=lt x y)(an:qX Tryz.prog (.func fn fs cs) c){d:Array dB}{a b n lc aE v:Nat}(ag:n=d.size)(hl:n<=1073741824)(aa:b<=n)(c3:a<b)(H:ab)(ah:ao H aE=.cells v (dx d)):
  c5 Tryz.prog 242 [.osl 1 aE v 0 n lc,.int .i64 a,.int .i64 b,.func fn fs cs] H (fun r H'=>r=.a0 []∧H'=ai H aE (.cells v (dx (Sort.heapSort lt d a b)))):=by
 refine eJ Tryz.func242 ?_;have aJ:=fun b=>m2 ah trivial b
 have hs:=nw H aE;obtain⟨m,rfl⟩:∃m,b=a+m:=⟨b-a,by omega⟩
 have eW:IntKind.i64.wrap (((a+m:Nat):Int)-(a:Int))=(m:Int):=b9 (by omega) (by omega)
 have ca:IntKind.i64.wrap ((m:Int)-1)=((m-1:Nat):Int):=b9 (by omega) (by omega)
 have bT:IntKind.i64.wrap (((m-1:Nat):Int).tdiv 2)=(((m-1) / 2:Nat):Int):=by rw[Bb (by omega)];exact b9 (by omega) (by omega)
 have e2:Sort.heapSort lt d a (a+m)=Sort.heapPop lt a m (Sort.heapBuild lt m a ((m-1) / 2+1) d):=by rw[Sort.heapSort,show a+m-a=m by omega]
 rw[e2];repeat' first|(refine ad ?_;simp only[go_sem,eW,ca,bT])|refine af ?_|fail
 refine b5 (ι:=Nat×Array dB) (fun s=>[(0,.osl 1 aE v 0 n lc),(3,.func fn fs cs),(8,.int .i64 a),(9,.int .i64 0),(10,.int .i64 m),(11,.int .i64 ((s.1:Int)-1))]) (fun s=>ai H aE (.cells v (dx s.2)))
  (fun s=>Sort.heapBuild lt m a s.1 s.2=Sort.heapBuild lt m a ((m-1) / 2+1) d∧s.2.size=n∧s.1<=m) (fun s=>s.1) ((m-1) / 2+1,d) ⟨rfl,ag.symm,by simp only;omega⟩ ?_ (oY ah trivial).symm ?_
 ·simp[go_sem]
 rintro⟨k,E⟩ ⟨h1,h2,h3⟩;simp only at h1 h2 h3 ⊢;cases k with
 |succ k=>
  rw[show((k+1:Nat):Int)-1=(k:Int) by omega]
  have aH:decide (0<=(k:Int))=true:=b1;rw[Sort.heapBuild]at h1;repeat' first|(refine ad ?_;simp only[go_sem,aH])|refine af ?_|fail
  refine c6 (SL al an h2.symm hl (show a+m<=n from aa) (by omega) _ (aJ _)) (aA) ?_
  rintro r H' ⟨rfl,rfl⟩;simp only[go_sem,hs];have dL:IntKind.i64.wrap ((k:Int)-1)=(k:Int)-1:=cB;repeat' first|(refine ad ?_;simp only[go_sem,dL])|refine af ?_|fail
  exact⟨(k,Sort.siftDown lt m a k E),⟨h1,by simp only;rw[XG m a _ k E (bk _)];exact h2,by simp only;omega⟩,nW _,rfl,rfl⟩
 |zero=>
 have aH:decide (0<=((0:Nat):Int)-1)=false:=rfl;have V3:decide ((0:Int)<= -1)=false:=rfl;rw[Sort.heapBuild]at h1;repeat' first|(refine ad ?_;simp only[go_sem,aH,V3,ca])|refine af ?_|fail
 rw[<-h1];refine b5 (ι:=Nat×Array dB) (fun s=>[(0,.osl 1 aE v 0 n lc),(3,.func fn fs cs),(8,.int .i64 a),(9,.int .i64 0),(12,.int .i64 ((s.1:Int)-1))]) (fun s=>ai H aE (.cells v (dx s.2)))
  (fun s=>Sort.heapPop lt a s.1 s.2=Sort.heapPop lt a m E∧s.2.size=n∧s.1<=m) (fun s=>s.1) (m,E) ⟨rfl,h2,bk _⟩ ?_ rfl ?_
 ·simp[go_sem];omega
 clear h1 h2 h3;rintro⟨k,D⟩ ⟨h1,h2,h3⟩;simp only at h1 h2 h3 ⊢;cases k with
 |succ k=>
  rw[show((k+1:Nat):Int)-1=(k:Int) by omega]
  have aH:decide (0<=(k:Int))=true:=b1;have gH:IntKind.i64.wrap ((a:Int)+(k:Int))=((a+k:Nat):Int):=b9 (by omega) (by omega)
  have fV:=eU (d:=D) (show a<D.size by omega)
  have lV:=eU (d:=D) (show a+k<D.size by omega)
  have gd:=mH (d:=D) (show a<D.size by omega) (show a+k<D.size by omega)
  have sl:=nf D h2 (show a<n by omega)
  rw[Sort.heapPop]at h1;repeat' first|((first|refine mx [10] R9 ?_|refine ad ?_);simp only[go_sem,aH,gH,aJ,hs,fV,lV,gd,sl,eE,fF,h2])|refine af ?_|fail
  refine c6 (SL (lo:=0) al an (show n=(Sort.swp D a (a+k)).size by rw[m1];exact h2.symm) hl (show a+k<=n by omega) (by omega) _ (aJ _)) (aA) ?_
  rintro r H' ⟨rfl,rfl⟩;simp only[go_sem,hs];have dL:IntKind.i64.wrap ((k:Int)-1)=(k:Int)-1:=cB;repeat' first|(refine ad ?_;simp only[go_sem,dL])|refine af ?_|fail
  exact⟨(k,Sort.siftDown lt k a 0 (Sort.swp D a (a+k))),⟨h1,by simp only;rw[XG k a _ 0 _ (bk _),m1];exact h2,by simp only;omega⟩,nW _,rfl,rfl⟩
 |zero=>
  have ec:decide (0<=((0:Nat):Int)-1)=false:=rfl;rw[Sort.heapPop]at h1;repeat' first|(refine ad ?_;simp only[go_sem,ec,V3])|refine af ?_|fail
  rw[<-h1];exact lS (m4 _ _ _) _ ⟨rfl,rfl⟩
end
end
section
theorem SM{n:Int}{d:Nat}(aC:0<=n)(h1:n<=72057594037927935)(hd:d<128):qG .or .i64 (n * 128) (d:Int)=n * 128+d:=by
 obtain⟨m,rfl⟩:∃m:Nat,n=m:=⟨n.toNat,by omega⟩
 have ar:BitVec.ofInt 64 ((m:Int) * 128)=BitVec.ofNat 64 (m * 128):=by rw[show((m:Int) * 128)=((m * 128:Nat):Int) by omega];exact BitVec.ofInt_natCast ..
 have au:BitVec.ofInt 64 (d:Int)=BitVec.ofNat 64 d:=BitVec.ofInt_natCast ..;show IntKind.i64.wrap ((BitVec.ofInt 64 ((m:Int) * 128)|||BitVec.ofInt 64 (d:Int)).toNat:Int)=_
 rw[ar,au,BitVec.toNat_or,BitVec.toNat_ofNat,BitVec.toNat_ofNat,Nat.mod_eq_of_lt (by omega),Nat.mod_eq_of_lt (by omega)]
 have bd:=Nat.shiftLeft_add_eq_or_of_lt (b:=d) (i:=7) (by omega) m
 rw[Nat.shiftLeft_eq]at bd;rw[show m * 128=m * 2 ^ 7 by omega,<-bd,cB]
 omega
theorem aBv{d:Nat}(h1:128<=d)(hd:d<256):qG .and .i64 (d:Int) 127=((d-128:Nat):Int):=by
 have au:BitVec.ofInt 64 (d:Int)=BitVec.ofNat 64 d:=BitVec.ofInt_natCast ..;have ar:BitVec.ofInt 64 (127:Int)=BitVec.ofNat 64 127:=rfl;show IntKind.i64.wrap ((BitVec.ofInt 64 (d:Int)&&&BitVec.ofInt 64 (127:Int)).toNat:Int)=_;rw[ar,au,BitVec.toNat_and,BitVec.toNat_ofNat,BitVec.toNat_ofNat,Nat.mod_eq_of_lt (by omega),Nat.mod_eq_of_lt (by omega)]
 have bd:=Nat.and_two_pow_sub_one_eq_mod d 7;rw[show 127=2 ^ 7-1 by omega,bd,cB]
 omega
theorem aAF:∀(b:aM) (n:Int) (f:Bool) (m:Int) (r:aM),ui n f b=some (m,r)->r.length<b.length:=by
 intro b;induction b with
 |nil=>intro n f m r h;cases h
 |cons x b ay=>
  intro n f m r h;rw[ui]at h;split at h
  ·cases h
  ·split at h
   ·cases h;simp
   ·have:=ay _ _ _ _ h;rw[cm];omega
theorem tl{b:aM}{m:Int}{r:aM}(h:hb b=some (m,r)):r.length<b.length:=aAF _ _ _ _ _ h
theorem aAG:∀(b:aM) (n:Int) (f:Bool) (m:Int) (r:aM),0<=n->ui n f b=some (m,r)->0<=m∧m<=9223372036854775807:=by
 intro b;induction b with
 |nil=>intro n f m r _ h;cases h
 |cons x b ay=>
  intro n f m r aC h;have J:=x.toNat_lt;rw[ui]at h;split at h
  ·cases h
  ·rename_i al;simp only[xq,hR,not_or]at al;split at h
   ·cases h;omega
   ·exact ay _ _ _ _ (by omega) h
def zg(b:aM):I:=match hb b with
 |none=>.a0 [.int .i64 0,.str [],.int .i64 40]
 |some (n,r)=>.a0 [.int .i64 n,.str r,.int .i64 0]
def Em(b:aM):I:=match uj b with
 |none=>.a0 [.str [],.str [],.int .i64 40]
 |some (t,r)=>.a0 [.str t,.str r,.int .i64 0]
theorem LX(b:aM)(aa:b.length<=1073741824)(H:ab):aY Tryz.prog 225 [.str b] H (zg b):=by
 refine bh Tryz.func225 ?_;repeat' first|(refine ad ?_;simp only[go_sem])|refine af ?_|fail
 refine jY (ι:=Int×Nat) (fun s=>[(0,.str b),(2,.int .i64 0),(3,.str []),(4,.int .i64 0),(5,.int .i64 s.1),(6,.int .i64 s.2)]) (fun _=>H) (fun s=>s.2<=b.length∧(s.2=0∧hb b=none∨0<s.2∧hb b=some (s.1,b.drop s.2))) ?_ fun⟨n,k⟩ hk=>?_
 ·refine b5 (ι:=Nat×Int) (fun s=>[(0,.str b),(2,.int .i64 0),(3,.str []),(4,.int .i64 0),(5,.int .i64 s.2),(6,.int .i64 0),(10,.int .i64 b.length),(11,.int .i64 s.1)]) (fun _=>H)
   (fun s=>s.1<=b.length∧0<=s.2∧hb b=ui s.2 (decide (s.1=0)) (b.drop s.1)) (fun s=>b.length-s.1) (0,0) ⟨bG _,iM _,rfl⟩ ?_ rfl ?_
  ·simp[go_sem]
  rintro⟨i,n⟩ ⟨hi,ag,aj⟩;simp only at hi ag aj ⊢;by_cases bS:i<b.length
  ·have kz:=eo bS;rw[kz,ui]at aj;have J:=b[i].toNat_lt;have cG:b.getD i 0=b[i]:=by simp[bS]
   obtain⟨x,WI⟩:∃x,x=b[i].toNat:=⟨_,rfl⟩;rw[<-WI]at aj J;have aH:decide ((i:Int)<(b.length:Int))=true:=b1;have JO:IntKind.i64.wrap ((b[i].toNat:Nat):Int)=(x:Int):=by rw[<-WI];exact cB
   have VX:IntKind.i64.wrap ((i:Int)+1)=((i+1:Nat):Int):=dW bS (by omega)
   obtain⟨xw,zM⟩:∃D,decide (i=0)=D:=⟨_,rfl⟩;obtain⟨y4,qp⟩:∃D,decide ((x:Int)=128)=D:=⟨_,rfl⟩;obtain⟨Qn,mI⟩:∃D,decide (72057594037927935<n)=D:=⟨_,rfl⟩;have yc:decide ((i:Int)=0)=xw:=by rw[<-zM];exact DO.2 (by omega)
   rw[zM,qp,mI]at aj;have stop:hb b=none->∃y:Int×Nat,(y.2<=b.length∧(y.2=0∧hb b=none∨0<y.2∧hb b=some (y.1,b.drop y.2)))∧I.int .i64 n=I.int .i64 y.1∧I.int .i64 0=I.int .i64 y.2:=fun h=>⟨(n,0),⟨bG _,.inl ⟨rfl,h⟩⟩,rfl,rfl⟩
   cases Qn with
   |true=>
    have hs:hb b=none:=by rw[aj];cases xw<;>cases y4<;>rfl
    cases xw<;>cases y4;all_goals
     repeat' first|(refine ad ?_;simp only[go_sem,cG,bS,aH,JO,yc,qp,mI])|refine af ?_|fail
     exact stop hs
   |false=>
    have V7:n<=72057594037927935:=by have:=of_decide_eq_false mI;omega
    have Wo:IntKind.i64.wrap (n * 2 ^ min 7 64)=n * 128:=by rw[show(2:Int) ^ min 7 64=128 by decide,cB]
    by_cases av:xw=true∧y4=true
    ·obtain⟨rfl,rfl⟩:=av;repeat' first|(refine ad ?_;simp only[go_sem,cG,bS,aH,JO,yc,qp,mI])|refine af ?_|fail
     exact stop aj
    ·have p0:hb b=if(x:Int)<128 then some (n * 128+x,List.drop (i+1) b)else ui (n * 128+(x-128)) false (List.drop (i+1) b):=by
      rw[aj];cases xw<;>cases y4<;>first|rfl|exact absurd ⟨rfl,rfl⟩ av
     by_cases I1:(x:Int)<128
     ·have E3:decide ((x:Int)<128)=true:=cF I1;have Ou:=SM ag V7 (d:=x) (by omega)
      rw[aF I1]at p0;have fin:∃y:Int×Nat,(y.2<=b.length∧(y.2=0∧hb b=none∨0<y.2∧hb b=some (y.1,b.drop y.2)))∧I.int .i64 (n * 128+x)=I.int .i64 y.1∧I.int .i64 ((i+1:Nat):Int)=I.int .i64 y.2:=⟨(n * 128+x,i+1),⟨bS,.inr ⟨Nat.succ_pos _,p0⟩⟩,rfl,rfl⟩;cases xw<;>cases y4;all_goals first
       |exact absurd ⟨rfl,rfl⟩ av
       |((repeat' first|(refine ad ?_;simp only[go_sem,cG,bS,aH,JO,yc,qp,mI,E3,Wo,Ou,VX])|refine af ?_|fail);exact fin)
     ·have E3:decide ((x:Int)<128)=false:=b8 I1;rw[az I1]at p0;have zS:=aBv (d:=x) (by omega) (by omega)
      have Ou:=SM ag V7 (d:=x-128) (by omega)
      have fin:∃y:Nat×Int,(y.1<=b.length∧0<=y.2∧hb b=ui y.2 (decide (y.1=0)) (b.drop y.1))∧b.length-y.1<b.length-i∧I.int .i64 (n * 128+((x-128:Nat):Int))=I.int .i64 y.2∧I.int .i64 ((i+1:Nat):Int)=I.int .i64 y.1:=by
       refine⟨(i+1,n * 128+((x-128:Nat):Int)),⟨bS,by simp only;omega,?_⟩,by simp only;omega,rfl,rfl⟩
       rw[p0];simp only[Nat.succ_ne_zero,DP];rw[show((x-128:Nat):Int)=(x:Int)-128 by omega]
      cases xw<;>cases y4;all_goals first
       |exact absurd ⟨rfl,rfl⟩ av
       |((repeat' first|(refine ad ?_;simp only[go_sem,cG,bS,aH,JO,yc,qp,mI,E3,Wo,zS,Ou,VX])|refine af ?_|fail);exact fin)
  ·have fx:i=b.length:=by omega
   subst fx;rw[l7,ui]at aj;repeat' first|(refine ad ?_;simp only[go_sem,bS])|refine af ?_|fail
   exact⟨(n,0),⟨bG _,.inl ⟨rfl,aj⟩⟩,⟨rfl,rfl⟩⟩
 simp only at hk ⊢;obtain⟨gD,⟨rfl,aj⟩|⟨aC,aj⟩⟩:=hk
 ·unfold zg;rw[aj];repeat' first|(refine ad ?_;simp only[go_sem])|refine af ?_|fail
  exact bC (.refl _)
 ·unfold zg;rw[aj];have hd:decide ((k:Int)=0)=false:=cg;have aJK:(k<=b.length)=True:=bJ gD;repeat' first|(refine ad ?_;simp only[go_sem,hd,aJK])|refine af ?_|fail
  exact bC (.refl _)
theorem LY(b:aM)(aa:b.length<=1073741824)(H:ab):aY Tryz.prog 206 [.str b] H (Em b):=by
 refine bh Tryz.func206 ?_;have aj:=LX b aa;unfold zg at aj;unfold Em uj;cases aL:hb b with
 |none=>
  simp only[aL]at aj;repeat' first|(refine ad ?_;simp only[go_sem])|refine af ?_|fail
  exact bC (.refl _)
 |some p=>
  obtain⟨n,r⟩:=p;simp only[aL]at aj;have ag:=aAG _ _ _ _ _ (iM 0) aL;by_cases ak:(r.length:Int)<n
  ·have hd:decide ((r.length:Int)<n)=true:=cF ak;simp only[aF ak];repeat' first|(refine ad ?_;simp only[go_sem,hd])|refine af ?_|fail
   exact bC (.refl _)
  ·have hd:decide ((r.length:Int)<n)=false:=b8 ak;simp only[az ak];obtain⟨k,rfl⟩:∃k:Nat,n=k:=⟨n.toNat,by omega⟩
   have aJN:(k<=r.length)=True:=bJ (by omega)
   repeat' first|(refine ad ?_;simp only[go_sem,hd,aJN])|refine af ?_|fail
   exact bC (.refl _)
end
section
def pP(c:b3):Bool:=decide (1000<(c.path.length:Int))||decide (1000<(c.to.length:Int))||decide (5000<(c.data.length:Int))
def ud(l:List b3)(n:Int):Bool:=l.all (fun x=> !pP x)&&decide ((l.length:Int)<=n)
theorem Ia(a b:dS):(decide (a.kind=b.kind)&&decide (a.path=b.path))=decide (a=b):=by
 obtain⟨_,_⟩:=a;obtain⟨_,_⟩:=b;rw[qh];simp
theorem SN(aV bm:Bool)(l m:List dS)(H:ab):aY Tryz.prog 41 [.sl aV (l.map ct),.sl bm (m.map ct)] H (.bool (decide (l=m))):=by
 refine nz fun bl _=>?_
 have hl:=lI bl;rw[cP]at hl;refine bh Tryz.func41 ?_;repeat' first|(refine ad ?_;simp only[go_sem])|refine bx ?_|(refine bD ?_ ?_<;>intro h<;>try exact bB h)|fail
 ·exact bC (.of (by rw[b8 (fun e=>by subst e;simp at h)]))
 ·have hlen:l.length=m.length:=by simp at h;omega
  refine b5 (ι:=Nat) (fun i=>[(0,.sl aV (l.map ct)),(1,.sl bm (m.map ct)),(5,.int .i64 i)]) (fun _=>H) (fun i=>i<=l.length∧l.take i=m.take i) (fun i=>l.length-i) 0 ⟨bG _,rfl⟩ ?_ rfl ?_
  ·simp[go_sem]
  ·rintro i ⟨hi,he⟩;by_cases ak:i<l.length
   ·have ae:=dg ct ak;have aS:=dg ct (show i<m.length by omega)
    repeat' first|(refine ad ?_;simp only[go_sem,ae,aS,ct])|refine bx ?_|(refine bD ?_ ?_<;>intro h<;>try exact bB h)|fail
    ·rw[Ia]at h;have aP:l[i]≠m[i]:=by simpa using h
     exact bC (.of (by rw[b8 (fun e=>aP (by subst e;rfl))]))
    ·rw[Ia]at h;have heq:l[i]=m[i]:=by simpa using h
     exact⟨i+1,⟨ak,by rw[eB ak,eB (by omega),he,heq]⟩,by omega,by rw[cB];rfl⟩
   ·have cv:i=l.length:=by omega
    subst cv;repeat' first|(refine ad ?_;simp only[go_sem])|refine bx ?_|(refine bD ?_ ?_<;>intro h<;>try exact bB h)|fail
    exact bC (.of (by rw[cF (by rw[eQ,hlen,eQ]at he;exact he)]))
theorem aDC(aV bm:Bool)(l m:List aM)(H:ab):aY Tryz.prog 40 [.sl aV (l.map qW),.sl bm (m.map qW)] H (.bool (decide (l=m))):=by
 refine nz fun bl _=>?_
 have hl:=lI bl;rw[cP]at hl;refine bh Tryz.func40 ?_;repeat' first|(refine ad ?_;simp only[go_sem])|refine bx ?_|(refine bD ?_ ?_<;>intro h<;>try exact bB h)|fail
 ·exact bC (.of (by rw[b8 (fun e=>by subst e;simp at h)]))
 ·have hlen:l.length=m.length:=by simp at h;omega
  refine b5 (ι:=Nat) (fun i=>[(0,.sl aV (l.map qW)),(1,.sl bm (m.map qW)),(5,.int .i64 i)]) (fun _=>H) (fun i=>i<=l.length∧l.take i=m.take i) (fun i=>l.length-i) 0 ⟨bG _,rfl⟩ ?_ rfl ?_
  ·simp[go_sem]
  ·rintro i ⟨hi,he⟩;by_cases ak:i<l.length
   ·have ae:=dg qW ak;have aS:=dg qW (show i<m.length by omega)
    repeat' first|(refine ad ?_;simp only[go_sem,ae,aS,qW])|refine bx ?_|(refine bD ?_ ?_<;>intro h<;>try exact bB h)|fail
    ·skip
     have aP:l[i]≠m[i]:=by simpa using h
     exact bC (.of (by rw[b8 (fun e=>aP (by subst e;rfl))]))
    ·skip
     have heq:l[i]=m[i]:=by simpa using h
     exact⟨i+1,⟨ak,by rw[eB ak,eB (by omega),he,heq]⟩,by omega,by rw[cB];rfl⟩
   ·have cv:i=l.length:=by omega
    subst cv;repeat' first|(refine ad ?_;simp only[go_sem])|refine bx ?_|(refine bD ?_ ?_<;>intro h<;>try exact bB h)|fail
    exact bC (.of (by rw[cF (by rw[eQ,hlen,eQ]at he;exact he)]))
theorem LZ(aV:Bool)(l:List b3)(n:Int)(H:ab):aY Tryz.prog 21 [.sl aV (l.map cJ),.int .i64 n] H (.bool (ud l n)):=by
 refine nz fun bl _=>?_
 have hl:=lI bl;rw[cP]at hl;refine bh Tryz.func21 ?_;refine aT ?_;refine b5 (ι:=Nat) (fun i=>[(0,.sl aV (l.map cJ)),(1,.int .i64 n),(5,.int .i64 i)]) (fun _=>H) (fun i=>i<=l.length∧∀x∈l.take i,pP x=false) (fun i=>l.length-i) 0 ⟨bG _,by simp⟩ ?_ rfl ?_
 ·simp[go_sem]
 ·rintro i ⟨hi,he⟩;by_cases ak:i<l.length
  ·have ae:=dg cJ ak;repeat' first|(refine ad ?_;simp only[go_sem,ae,cJ])|refine bx ?_|(refine bD ?_ ?_<;>intro h<;>try exact bB h)|fail
   ·exact bC (.of (by
     have:ud l n=false:=by
      unfold ud;rw[Bool.and_eq_false_iff];left;rw[vC];intro q;have aO:=gT.1 q l[i] (hv _);have dr:pP l[i]=true:=h;rw[dr]at aO;cases aO
     rw[this]))
   ·refine⟨i+1,⟨ak,fun x J=>?_⟩,by omega,by rw[cB];rfl⟩
    rw[eB ak,eX]at J;rcases J with J|J
    ·exact he x J
    ·simp at J;subst J;exact h
  ·have cv:i=l.length:=by omega
   subst cv;repeat' first|(refine ad ?_;simp only[go_sem])|refine bx ?_|(refine bD ?_ ?_<;>intro h<;>try exact bB h)|fail
   refine bC (.of ?_);rw[eQ]at he;have:l.all (fun x=> !pP x)=true:=gT.2 fun x J=>by rw[he x J];rfl
   rw[ud,this,hG]
theorem aDD(aV bm:Bool)(l m:List aM)(H:ab):aY Tryz.prog 40 [.sl aV (l.map I.str),.sl bm (m.map I.str)] H (.bool (decide (l=m))):=aDC aV bm l m H
def il(f2 f3:Bool)(a:hS):I:=.agg [.int .i64 a.err,.str a.data,.sl f2 (a.names.map I.str),.int .i64 a.n,.sl f3 (a.events.map ct)]
@[go_sem] theorem aRR(f2 f3:Bool)(x:hS):bO (il f2 f3 x)=True:=by simp only[il,go_sem]
theorem Tz(a b:hS):(decide (a.names=b.names)&&decide (a.events=b.events)&&decide (a.err=b.err)&&decide (a.data=b.data)&&decide (a.n=b.n))=decide (a=b):=by
 obtain⟨_,_,_,_,_⟩:=a;obtain⟨_,_,_,_,_⟩:=b;rw[qh];simp;constructor<;>(intro h;simp_all)
theorem aDE(f2 f3 a7 ch:Bool)(a b:hS)(H:ab):aY Tryz.prog 20 [il f2 f3 a,il a7 ch b] H (.bool (decide (a=b))):=by
 refine bh Tryz.func20 ?_;have h1:=aDD f2 a7 a.names b.names;have h2:=SN f3 ch a.events b.events;rw[<-Tz];refine b0 il.eq_1 ?_;refine bo (.of (bH I.bool ?_));generalize decide (a.names=b.names)=cK;generalize decide (a.events=b.events)=dc;cases cK<;>cases dc<;>simp[Bool.and_assoc]
end
end Go.Proofs.YthafnbmdmfoobaaGreatDoor

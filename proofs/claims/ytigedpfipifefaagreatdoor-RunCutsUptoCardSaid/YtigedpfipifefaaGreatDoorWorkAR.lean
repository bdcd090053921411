/- What the functions of this seat answer (18 of 40). No condition. -/
import Derived.Test.YtigedpfipifefaaGreatDoorWorkAO
set_option linter.unusedSimpArgs false
set_option linter.unusedVariables false
set_option linter.unusedSectionVars false
set_option maxRecDepth 100000
set_option maxHeartbeats 16000000
namespace Go.Proofs.YtigedpfipifefaaGreatDoor
def aL:List Pl:=[.free,.free,.free,.free,.free,.free,.pure 0,.pure 0,.free,.free,.pure 0,.pure 0,.pure 0,.eff [false,false,true,false,false],.pure 0,.eff [false,false]]
attribute [go_sem] aL
theorem eE{H:AHeap}{i:Nat}{b:ABlk}{v:AV}(hb:ClB H.length b)(hp:Pur v)(R:AV→AHeap→Prop)(hR:R v (aA H i b)):
  ∃H1 L y,aA H i b=H1++L∧H1.length=H.length∧(∀(j:Nat) (c:ABlk),H1[j]?=some c→H[j]?=some c∨ClB H.length c)∧Frz H.length (aA H i b) v y∧R y H1:=
 ⟨aA H i b,[],v,(zAj _).symm,nD H i b,nE hb,.cl _ (hp.cl _),hR⟩
section
variable {lt:dV→dV→Bool} {c:dV→dV→Int} {fn:Fn} {fs cs:List AV}
theorem aB0(hc:∀x y,decide (c x y<0)=lt x y)(hf:nJ Tryz.prog (.func fn fs cs) c){d:Array dV}{a b p n lc blk v:Nat}(hn:n=d.size)(hl:n≤1073741824)(hb:b≤n)(hap:a≤p)(hpb:p<b)(H:AHeap)(hh:hget H blk=.cells v (dC d)):
  ACalls Tryz.prog 223 [.osl 1 blk v 0 n lc,.int .i64 a,.int .i64 b,.int .i64 p,.func fn fs cs] H (fun r H'=>r=.int .i64 ((Sort.partitionEqual lt d a b p).1:Nat)∧H'=aA H blk (.cells v (dC (Sort.partitionEqual lt d a b p).2))):=by
 refine aO Tryz.func223 ?_;have hP:=pT [(1,aL),(8,aL)];have hg:=fun b=>fK hh trivial b
 have hs:=eA H blk;have gi:=aP (d:=d) (show a<d.size by omega)
 have gj:=aP (d:=d) (show p<d.size by omega)
 have hsw:=dH (d:=d) (show a<d.size by omega) (show p<d.size by omega)
 have sl:=fL d hn.symm (show a<n by omega)
 have hw1:IntKind.i64.wrap ((a:Int)+1)=((a+1:Nat):Int):=aB (by omega) (by omega)
 have hw2:IntKind.i64.wrap ((b:Int)-1)=((b-1:Nat):Int):=aB (by omega) (by omega)
 have hR:Sort.partitionEqual lt d a b p=Sort.partEqLoop lt a (a+1) (b-1) (Sort.swp d a p):=rfl;rw[hR];have hE0:(Sort.swp d a p).size=n:=by rw[bP];exact hn.symm
 repeat' first|((first|refine mx [1,8] aL ?_|refine gS ?_);simp only[go_sem,hh,hg,hs,gi,gj,hsw,sl,hw1,hw2,zAo,aU,←hn])|refine hU ?_|fail
 generalize Sort.swp d a p=E0 at *;refine aH (ι:=Nat×Nat×Array dV) (fun s=>[(0,.osl 1 blk v 0 n lc),(1,.int .i64 a),(4,.func fn fs cs),(11,.int .i64 s.1),(12,.int .i64 s.2.1)]) (fun s=>aA H blk (.cells v (dC s.2.2)))
  (fun s=>Sort.partEqLoop lt a s.1 s.2.1 s.2.2=Sort.partEqLoop lt a (a+1) (b-1) E0∧s.2.2.size=n∧a<s.1∧s.1≤n+1∧s.2.1<n) (fun s=>s.2.1+1-s.1) (a+1,b-1,E0) ⟨rfl,hE0,by simp only;omega,by simp only;omega,by simp only;omega⟩ ?_ rfl ?_
 ·simp[go_sem]
 rintro⟨i,j,D⟩ ⟨w1,w2,w3,w4,w5⟩;simp only at w1 w2 w3 w4 w5 ⊢;rw[Sort.partEqLoop_eq]at w1;have q1:=Sort.scanUp_ge (fun x=> !lt D[a]! x) D j i
 refine hG ?_;refine dU (ι:=Nat) (fun k=>[(0,.osl 1 blk v 0 n lc),(1,.int .i64 a),(4,.func fn fs cs),(11,.int .i64 k),(12,.int .i64 (j:Nat))]) (fun _=>aA H blk (.cells v (dC D))) (fun k=>k=Sort.scanUp (fun x=> !lt D[a]! x) D (j) (i)) ?_ ?_
 ·refine aH (ι:=Nat) (fun k=>[(0,.osl 1 blk v 0 n lc),(1,.int .i64 a),(4,.func fn fs cs),(11,.int .i64 k),(12,.int .i64 (j:Nat))]) (fun _=>aA H blk (.cells v (dC D))) (fun k=>Sort.scanUp (fun x=> !lt D[a]! x) D (j) k=Sort.scanUp (fun x=> !lt D[a]! x) D (j) (i)∧a<k∧k≤n+1) (fun k=>j+1-k) (i) ⟨rfl,by omega,by omega⟩ ?_ rfl ?_
  ·simp[go_sem]
  rintro k ⟨h1,h0,h2⟩;rw[Sort.scanUp]at h1;by_cases hij:k≤j
  ·have hli:decide ((k:Int)≤((j:Nat):Int))=true:=dT;have gi:=aP (d:=D) (show k<D.size by omega)
   have ga:=aP (d:=D) (show a<D.size by omega)
   have hw1:IntKind.i64.wrap ((k:Int)+1)=((k+1:Nat):Int):=aB (by omega) (by omega)
   repeat' first|((first|refine mx [1,8] aL ?_|refine gS ?_);simp only[go_sem,hli,hg,hs,gi,ga,zAo,aU,w2])|refine hU ?_|fail
   refine bH hf ?_;simp only[go_sem,hc];cases hxy:lt D[a]! D[k]! with
   |false=>
    simp only[zAg hij,zAE,hxy,zA8,zBy]at h1;refine hH ?_;exact⟨k+1,⟨h1,by omega,by omega⟩,by omega,rfl⟩
   |true=>
    simp only[zAg hij,zAE,hxy,zBs,zAr,zBd]at h1;repeat' first|((first|refine mx [1,8] aL ?_|refine gS ?_);simp only[go_sem,hxy])|refine hU ?_|fail
    exact⟨k,h1,rfl⟩
  ·have hli:decide ((k:Int)≤((j:Nat):Int))=false:=dF;simp only[zAh hij,zBx,zAr,zBd]at h1;repeat' first|((first|refine mx [1,8] aL ?_|refine gS ?_);simp only[go_sem,hli])|refine hU ?_|fail
   exact⟨k,h1,rfl⟩
 rintro i2 hi2;rw[←hi2]at w1 q1;have q2:=Sort.scanDown_le (fun x=>lt D[a]! x) D i2 j
 refine hG ?_;refine dU (ι:=Nat) (fun k=>[(0,.osl 1 blk v 0 n lc),(1,.int .i64 a),(4,.func fn fs cs),(11,.int .i64 (i2:Nat)),(12,.int .i64 k)]) (fun _=>aA H blk (.cells v (dC D))) (fun k=>k=Sort.scanDown (fun x=>lt D[a]! x) D (i2) (j)) ?_ ?_
 ·refine aH (ι:=Nat) (fun k=>[(0,.osl 1 blk v 0 n lc),(1,.int .i64 a),(4,.func fn fs cs),(11,.int .i64 (i2:Nat)),(12,.int .i64 k)]) (fun _=>aA H blk (.cells v (dC D))) (fun k=>Sort.scanDown (fun x=>lt D[a]! x) D (i2) k=Sort.scanDown (fun x=>lt D[a]! x) D (i2) (j)∧k≤j) (fun k=>k) (j) ⟨rfl,zAb _⟩ ?_ rfl ?_
  ·simp[go_sem]
  rintro k ⟨h1,h2⟩;by_cases hij:i2≤k
  ·have hli:decide (((i2:Nat):Int)≤(k:Int))=true:=dT;obtain⟨m,rfl⟩:∃m,k=m+1:=⟨k-1,by omega⟩
   rw[Sort.scanDown]at h1;have gi:=aP (d:=D) (show m+1<D.size by omega)
   have ga:=aP (d:=D) (show a<D.size by omega)
   have hw1:IntKind.i64.wrap (((m+1:Nat):Int)-1)=((m:Nat):Int):=aB (by omega) (by omega)
   repeat' first|((first|refine mx [1,8] aL ?_|refine gS ?_);simp only[go_sem,hli,hg,hs,gi,ga,zAo,aU,w2])|refine hU ?_|fail
   refine bH hf ?_;simp only[go_sem,hc];cases hxy:lt D[a]! D[m+1]! with
   |true=>
    simp only[zAg hij,zAE,hxy,zA8,zBy]at h1;repeat' first|((first|refine mx [1,8] aL ?_|refine gS ?_);simp only[go_sem,hxy,hw1])|refine hU ?_|fail
    exact⟨m,⟨h1,by omega⟩,zAL _,rfl⟩
   |false=>
    simp only[zAg hij,zAE,hxy,zBs,zAr,zBd]at h1;repeat' first|((first|refine mx [1,8] aL ?_|refine gS ?_);simp only[go_sem,hxy])|refine hU ?_|fail
    exact⟨m+1,h1,rfl⟩
  ·have hli:decide (((i2:Nat):Int)≤(k:Int))=false:=dF;have e:Sort.scanDown (fun x=>lt D[a]! x) D (i2) k=k:=by
    cases k with
    |zero=>rfl
    |succ m=>rw[Sort.scanDown,zAk (by rw[zAh hij];simp)]
   rw[e]at h1;repeat' first|((first|refine mx [1,8] aL ?_|refine gS ?_);simp only[go_sem,hli])|refine hU ?_|fail
   exact⟨k,h1,rfl⟩
 rintro j2 hj2;rw[←hj2]at w1 q2;by_cases hgt:i2>j2
 ·have hli:decide ((j2:Int)<(i2:Int))=true:=dT;simp only[zAp hgt]at w1;repeat' first|((first|refine mx [1,8] aL ?_|refine gS ?_);simp only[go_sem,hli])|refine hU ?_|fail
  rw[←w1];exact eE (dL _ _ _) (.int _ _) _ ⟨rfl,rfl⟩
 ·have hli:decide ((j2:Int)<(i2:Int))=false:=dF;simp only[zAk hgt]at w1;have gi:=aP (d:=D) (show i2<D.size by omega)
  have gj:=aP (d:=D) (show j2<D.size by omega)
  have hsw:=dH (d:=D) (show i2<D.size by omega) (show j2<D.size by omega)
  have sl:=fL D w2 (show i2<n by omega)
  have hw3:IntKind.i64.wrap ((i2:Int)+1)=((i2+1:Nat):Int):=aB (by omega) (by omega)
  have hw4:IntKind.i64.wrap ((j2:Int)-1)=((j2-1:Nat):Int):=aB (by omega) (by omega)
  repeat' first|((first|refine mx [1,8] aL ?_|refine gS ?_);simp only[go_sem,hli,hg,hs,gi,gj,hsw,sl,hw3,hw4,zAo,aU,w2])|refine hU ?_|fail
  exact⟨(i2+1,j2-1,Sort.swp D i2 j2),⟨w1,by simp only[bP];exact w2,by simp only;omega,by simp only;omega,by simp only;omega⟩,by simp only;omega,⟨rfl,rfl⟩,rfl⟩
theorem aGq(hc:∀x y,decide (c x y<0)=lt x y)(hf:nJ Tryz.prog (.func fn fs cs) c){d:Array dV}{a b p n lc blk v:Nat}(hn:n=d.size)(hl:n≤1073741824)(hb:b≤n)(hap:a≤p)(hpb:p<b)(H:AHeap)(hh:hget H blk=.cells v (dC d)):
  ACalls Tryz.prog 224 [.osl 1 blk v 0 n lc,.int .i64 a,.int .i64 b,.int .i64 p,.func fn fs cs] H (fun r H'=>r=.tup [.int .i64 ((Sort.partition lt d a b p).1:Nat),.bool (Sort.partition lt d a b p).2.1]∧H'=aA H blk (.cells v (dC (Sort.partition lt d a b p).2.2))):=by
 refine aO Tryz.func224 ?_;have hP:=pT [(1,aL),(8,aL),(10,aL),(18,aL),(21,aL)];have hg:=fun b=>fK hh trivial b
 have hs:=eA H blk;have gi:=aP (d:=d) (show a<d.size by omega)
 have gj:=aP (d:=d) (show p<d.size by omega)
 have hsw:=dH (d:=d) (show a<d.size by omega) (show p<d.size by omega)
 have sl:=fL d hn.symm (show a<n by omega)
 have hw1:IntKind.i64.wrap ((a:Int)+1)=((a+1:Nat):Int):=aB (by omega) (by omega)
 have hw2:IntKind.i64.wrap ((b:Int)-1)=((b-1:Nat):Int):=aB (by omega) (by omega)
 have hE0:(Sort.swp d a p).size=n:=by rw[bP];exact hn.symm
 obtain⟨R,hR⟩:∃R,Sort.partition lt d a b p=R:=⟨_,rfl⟩;rw[hR];unfold Sort.partition at hR;repeat' first|((first|refine mx [1,8,10,18,21] aL ?_|refine gS ?_);simp only[go_sem,hh,hg,hs,gi,gj,hsw,sl,hw1,hw2,zAo,aU,←hn])|refine hU ?_|fail
 generalize Sort.swp d a p=E0 at *;have q1:=Sort.scanUp_ge (fun x=>lt x E0[a]!) E0 (b-1) (a+1)
 refine dU (ι:=Nat) (fun k=>[(0,.osl 1 blk v 0 n lc),(1,.int .i64 a),(4,.func fn fs cs),(10,.int .i64 0),(11,.bool false),(12,.int .i64 k),(13,.int .i64 (b-1:Nat))]) (fun _=>aA H blk (.cells v (dC E0))) (fun k=>k=Sort.scanUp (fun x=>lt x E0[a]!) E0 (b-1) (a+1)) ?_ ?_
 ·refine aH (ι:=Nat) (fun k=>[(0,.osl 1 blk v 0 n lc),(1,.int .i64 a),(4,.func fn fs cs),(10,.int .i64 0),(11,.bool false),(12,.int .i64 k),(13,.int .i64 (b-1:Nat))]) (fun _=>aA H blk (.cells v (dC E0))) (fun k=>Sort.scanUp (fun x=>lt x E0[a]!) E0 (b-1) k=Sort.scanUp (fun x=>lt x E0[a]!) E0 (b-1) (a+1)∧a<k∧k≤n+1) (fun k=>b-1+1-k) (a+1) ⟨rfl,by omega,by omega⟩ ?_ rfl ?_
  ·simp[go_sem]
  rintro k ⟨h1,h0,h2⟩;rw[Sort.scanUp]at h1;by_cases hij:k≤b-1
  ·have hli:decide ((k:Int)≤((b-1:Nat):Int))=true:=dT;have gi:=aP (d:=E0) (show k<E0.size by omega)
   have ga:=aP (d:=E0) (show a<E0.size by omega)
   have hw1:IntKind.i64.wrap ((k:Int)+1)=((k+1:Nat):Int):=aB (by omega) (by omega)
   repeat' first|((first|refine mx [1,8,10,18,21] aL ?_|refine gS ?_);simp only[go_sem,hli,hg,hs,gi,ga,zAo,aU,hE0])|refine hU ?_|fail
   refine bH hf ?_;simp only[go_sem,hc];cases hxy:lt E0[k]! E0[a]! with
   |true=>
    simp only[zAg hij,zAE,hxy,zA8,zBy]at h1;refine hH ?_;exact⟨k+1,⟨h1,by omega,by omega⟩,by omega,rfl⟩
   |false=>
    simp only[zAg hij,zAE,hxy,zBs,zAr,zBd]at h1;repeat' first|((first|refine mx [1,8,10,18,21] aL ?_|refine gS ?_);simp only[go_sem,hxy])|refine hU ?_|fail
    exact⟨k,h1,rfl⟩
  ·have hli:decide ((k:Int)≤((b-1:Nat):Int))=false:=dF;simp only[zAh hij,zBx,zAr,zBd]at h1;repeat' first|((first|refine mx [1,8,10,18,21] aL ?_|refine gS ?_);simp only[go_sem,hli])|refine hU ?_|fail
   exact⟨k,h1,rfl⟩
 rintro i1 hi1;simp only[←hi1]at hR q1;have q2:=Sort.scanDown_le (fun x=> !lt x E0[a]!) E0 i1 (b-1)
 refine hG ?_;refine dU (ι:=Nat) (fun k=>[(0,.osl 1 blk v 0 n lc),(1,.int .i64 a),(4,.func fn fs cs),(10,.int .i64 0),(11,.bool false),(12,.int .i64 (i1:Nat)),(13,.int .i64 k)]) (fun _=>aA H blk (.cells v (dC E0))) (fun k=>k=Sort.scanDown (fun x=> !lt x E0[a]!) E0 (i1) (b-1)) ?_ ?_
 ·refine aH (ι:=Nat) (fun k=>[(0,.osl 1 blk v 0 n lc),(1,.int .i64 a),(4,.func fn fs cs),(10,.int .i64 0),(11,.bool false),(12,.int .i64 (i1:Nat)),(13,.int .i64 k)]) (fun _=>aA H blk (.cells v (dC E0))) (fun k=>Sort.scanDown (fun x=> !lt x E0[a]!) E0 (i1) k=Sort.scanDown (fun x=> !lt x E0[a]!) E0 (i1) (b-1)∧k≤b-1) (fun k=>k) (b-1) ⟨rfl,zAb _⟩ ?_ rfl ?_
  ·simp[go_sem]
  rintro k ⟨h1,h2⟩;by_cases hij:i1≤k
  ·have hli:decide (((i1:Nat):Int)≤(k:Int))=true:=dT;obtain⟨m,rfl⟩:∃m,k=m+1:=⟨k-1,by omega⟩
   rw[Sort.scanDown]at h1;have gi:=aP (d:=E0) (show m+1<E0.size by omega)
   have ga:=aP (d:=E0) (show a<E0.size by omega)
   have hw1:IntKind.i64.wrap (((m+1:Nat):Int)-1)=((m:Nat):Int):=aB (by omega) (by omega)
   repeat' first|((first|refine mx [1,8,10,18,21] aL ?_|refine gS ?_);simp only[go_sem,hli,hg,hs,gi,ga,zAo,aU,hE0])|refine hU ?_|fail
   refine bH hf ?_;simp only[go_sem,hc];cases hxy:lt E0[m+1]! E0[a]! with
   |false=>
    simp only[zAg hij,zAE,hxy,zA8,zBy]at h1;repeat' first|((first|refine mx [1,8,10,18,21] aL ?_|refine gS ?_);simp only[go_sem,hxy,hw1])|refine hU ?_|fail
    exact⟨m,⟨h1,by omega⟩,zAL _,rfl⟩
   |true=>
    simp only[zAg hij,zAE,hxy,zBs,zAr,zBd]at h1;repeat' first|((first|refine mx [1,8,10,18,21] aL ?_|refine gS ?_);simp only[go_sem,hxy])|refine hU ?_|fail
    exact⟨m+1,h1,rfl⟩
  ·have hli:decide (((i1:Nat):Int)≤(k:Int))=false:=dF;have e:Sort.scanDown (fun x=> !lt x E0[a]!) E0 (i1) k=k:=by
    cases k with
    |zero=>rfl
    |succ m=>rw[Sort.scanDown,zAk (by rw[zAh hij];simp)]
   rw[e]at h1;repeat' first|((first|refine mx [1,8,10,18,21] aL ?_|refine gS ?_);simp only[go_sem,hli])|refine hU ?_|fail
   exact⟨k,h1,rfl⟩
 rintro j1 hj1;simp only[←hj1]at hR q2;by_cases hgt:i1>j1
 ·have hli:decide ((j1:Int)<(i1:Int))=true:=dT;rw[zAp hgt]at hR;have gi2:=aP (d:=E0) (show j1<E0.size by omega)
  have gj2:=aP (d:=E0) (show a<E0.size by omega)
  have hsw2:=dH (d:=E0) (show j1<E0.size by omega) (show a<E0.size by omega)
  have sl2:=fL E0 hE0 (show j1<n by omega)
  repeat' first|((first|refine mx [1,8,10,18,21] aL ?_|refine gS ?_);simp only[go_sem,hli,hg,hs,gi2,gj2,hsw2,sl2,zAo,aU,hE0])|refine hU ?_|fail
  rw[←hR];exact eE (dL _ _ _) (by simp only[go_sem]) _ ⟨rfl,rfl⟩
 have hli:decide ((j1:Int)<(i1:Int))=false:=dF;rw[zAk hgt]at hR;have gi3:=aP (d:=E0) (show i1<E0.size by omega)
 have gj3:=aP (d:=E0) (show j1<E0.size by omega)
 have hsw3:=dH (d:=E0) (show i1<E0.size by omega) (show j1<E0.size by omega)
 have sl3:=fL E0 hE0 (show i1<n by omega)
 have hw3:IntKind.i64.wrap ((i1:Int)+1)=((i1+1:Nat):Int):=aB (by omega) (by omega)
 have hw4:IntKind.i64.wrap ((j1:Int)-1)=((j1-1:Nat):Int):=aB (by omega) (by omega)
 have hE1:(Sort.swp E0 i1 j1).size=n:=by rw[bP];exact hE0
 repeat' first|((first|refine mx [1,8,10,18,21] aL ?_|refine gS ?_);simp only[go_sem,hli,hg,hs,gi3,gj3,hsw3,sl3,hw3,hw4,zAo,aU,hE0])|refine hU ?_|fail
 generalize Sort.swp E0 i1 j1=E1 at *;clear gi3 gj3 hsw3 sl3 gi gj hsw sl;refine dU (ι:=Nat×Array dV) (fun s=>[(0,.osl 1 blk v 0 n lc),(1,.int .i64 a),(4,.func fn fs cs),(10,.int .i64 0),(11,.bool false),(13,.int .i64 s.1)]) (fun s=>aA H blk (.cells v (dC s.2))) (fun s=>s=Sort.partLoop lt a (i1+1) (j1-1) E1∧s.2.size=n∧s.1<n) ?_ ?_
 ·refine aH (ι:=Nat×Nat×Array dV) (fun s=>[(0,.osl 1 blk v 0 n lc),(1,.int .i64 a),(4,.func fn fs cs),(10,.int .i64 0),(11,.bool false),(12,.int .i64 s.1),(13,.int .i64 s.2.1)]) (fun s=>aA H blk (.cells v (dC s.2.2)))
   (fun s=>Sort.partLoop lt a s.1 s.2.1 s.2.2=Sort.partLoop lt a (i1+1) (j1-1) E1∧s.2.2.size=n∧a<s.1∧s.1≤n+1∧s.2.1<n) (fun s=>s.2.1+1-s.1) (i1+1,j1-1,E1) ⟨rfl,hE1,by simp only;omega,by simp only;omega,by simp only;omega⟩ ?_ rfl ?_
  ·simp[go_sem]
  rintro⟨i,j,D⟩ ⟨w1,w2,w3,w4,w5⟩;simp only at w1 w2 w3 w4 w5 ⊢;rw[Sort.partLoop_eq]at w1;have q3:=Sort.scanUp_ge (fun x=>lt x D[a]!) D j i
  refine hG ?_;refine dU (ι:=Nat) (fun k=>[(0,.osl 1 blk v 0 n lc),(1,.int .i64 a),(4,.func fn fs cs),(10,.int .i64 0),(11,.bool false),(12,.int .i64 k),(13,.int .i64 (j:Nat))]) (fun _=>aA H blk (.cells v (dC D))) (fun k=>k=Sort.scanUp (fun x=>lt x D[a]!) D (j) (i)) ?_ ?_
  ·refine aH (ι:=Nat) (fun k=>[(0,.osl 1 blk v 0 n lc),(1,.int .i64 a),(4,.func fn fs cs),(10,.int .i64 0),(11,.bool false),(12,.int .i64 k),(13,.int .i64 (j:Nat))]) (fun _=>aA H blk (.cells v (dC D))) (fun k=>Sort.scanUp (fun x=>lt x D[a]!) D (j) k=Sort.scanUp (fun x=>lt x D[a]!) D (j) (i)∧a<k∧k≤n+1) (fun k=>j+1-k) (i) ⟨rfl,by omega,by omega⟩ ?_ rfl ?_
   ·simp[go_sem]
   rintro k ⟨h1,h0,h2⟩;rw[Sort.scanUp]at h1;by_cases hij:k≤j
   ·have hli:decide ((k:Int)≤((j:Nat):Int))=true:=dT;have gi:=aP (d:=D) (show k<D.size by omega)
    have ga:=aP (d:=D) (show a<D.size by omega)
    have hw1:IntKind.i64.wrap ((k:Int)+1)=((k+1:Nat):Int):=aB (by omega) (by omega)
    repeat' first|((first|refine mx [1,8,10,18,21] aL ?_|refine gS ?_);simp only[go_sem,hli,hg,hs,gi,ga,zAo,aU,w2])|refine hU ?_|fail
    refine bH hf ?_;simp only[go_sem,hc];cases hxy:lt D[k]! D[a]! with
    |true=>
     simp only[zAg hij,zAE,hxy,zA8,zBy]at h1;refine hH ?_;exact⟨k+1,⟨h1,by omega,by omega⟩,by omega,rfl⟩
    |false=>
     simp only[zAg hij,zAE,hxy,zBs,zAr,zBd]at h1;repeat' first|((first|refine mx [1,8,10,18,21] aL ?_|refine gS ?_);simp only[go_sem,hxy])|refine hU ?_|fail
     exact⟨k,h1,rfl⟩
   ·have hli:decide ((k:Int)≤((j:Nat):Int))=false:=dF;simp only[zAh hij,zBx,zAr,zBd]at h1;repeat' first|((first|refine mx [1,8,10,18,21] aL ?_|refine gS ?_);simp only[go_sem,hli])|refine hU ?_|fail
    exact⟨k,h1,rfl⟩
  rintro i2 hi2;rw[←hi2]at w1 q3;have q4:=Sort.scanDown_le (fun x=> !lt x D[a]!) D i2 j
  refine hG ?_;refine dU (ι:=Nat) (fun k=>[(0,.osl 1 blk v 0 n lc),(1,.int .i64 a),(4,.func fn fs cs),(10,.int .i64 0),(11,.bool false),(12,.int .i64 (i2:Nat)),(13,.int .i64 k)]) (fun _=>aA H blk (.cells v (dC D))) (fun k=>k=Sort.scanDown (fun x=> !lt x D[a]!) D (i2) (j)) ?_ ?_
  ·refine aH (ι:=Nat) (fun k=>[(0,.osl 1 blk v 0 n lc),(1,.int .i64 a),(4,.func fn fs cs),(10,.int .i64 0),(11,.bool false),(12,.int .i64 (i2:Nat)),(13,.int .i64 k)]) (fun _=>aA H blk (.cells v (dC D))) (fun k=>Sort.scanDown (fun x=> !lt x D[a]!) D (i2) k=Sort.scanDown (fun x=> !lt x D[a]!) D (i2) (j)∧k≤j) (fun k=>k) (j) ⟨rfl,zAb _⟩ ?_ rfl ?_
   ·simp[go_sem]
   rintro k ⟨h1,h2⟩;by_cases hij:i2≤k
   ·have hli:decide (((i2:Nat):Int)≤(k:Int))=true:=dT;obtain⟨m,rfl⟩:∃m,k=m+1:=⟨k-1,by omega⟩
    rw[Sort.scanDown]at h1;have gi:=aP (d:=D) (show m+1<D.size by omega)
    have ga:=aP (d:=D) (show a<D.size by omega)
    have hw1:IntKind.i64.wrap (((m+1:Nat):Int)-1)=((m:Nat):Int):=aB (by omega) (by omega)
    repeat' first|((first|refine mx [1,8,10,18,21] aL ?_|refine gS ?_);simp only[go_sem,hli,hg,hs,gi,ga,zAo,aU,w2])|refine hU ?_|fail
    refine bH hf ?_;simp only[go_sem,hc];cases hxy:lt D[m+1]! D[a]! with
    |false=>
     simp only[zAg hij,zAE,hxy,zA8,zBy]at h1;repeat' first|((first|refine mx [1,8,10,18,21] aL ?_|refine gS ?_);simp only[go_sem,hxy,hw1])|refine hU ?_|fail
     exact⟨m,⟨h1,by omega⟩,zAL _,rfl⟩
    |true=>
     simp only[zAg hij,zAE,hxy,zBs,zAr,zBd]at h1;repeat' first|((first|refine mx [1,8,10,18,21] aL ?_|refine gS ?_);simp only[go_sem,hxy])|refine hU ?_|fail
     exact⟨m+1,h1,rfl⟩
   ·have hli:decide (((i2:Nat):Int)≤(k:Int))=false:=dF;have e:Sort.scanDown (fun x=> !lt x D[a]!) D (i2) k=k:=by
     cases k with
     |zero=>rfl
     |succ m=>rw[Sort.scanDown,zAk (by rw[zAh hij];simp)]
    rw[e]at h1;repeat' first|((first|refine mx [1,8,10,18,21] aL ?_|refine gS ?_);simp only[go_sem,hli])|refine hU ?_|fail
    exact⟨k,h1,rfl⟩
  rintro j2 hj2;rw[←hj2]at w1 q4;by_cases hgt2:i2>j2
  ·have hli2:decide ((j2:Int)<(i2:Int))=true:=dT;simp only[zAp hgt2]at w1;repeat' first|((first|refine mx [1,8,10,18,21] aL ?_|refine gS ?_);simp only[go_sem,hli2])|refine hU ?_|fail
   exact⟨(j2,D),⟨w1,w2,by simp only;omega⟩,rfl,rfl⟩
  ·have hli2:decide ((j2:Int)<(i2:Int))=false:=dF;simp only[zAk hgt2]at w1;have gi:=aP (d:=D) (show i2<D.size by omega)
   have gj:=aP (d:=D) (show j2<D.size by omega)
   have hsw:=dH (d:=D) (show i2<D.size by omega) (show j2<D.size by omega)
   have sl:=fL D w2 (show i2<n by omega)
   have hw5:IntKind.i64.wrap ((i2:Int)+1)=((i2+1:Nat):Int):=aB (by omega) (by omega)
   have hw6:IntKind.i64.wrap ((j2:Int)-1)=((j2-1:Nat):Int):=aB (by omega) (by omega)
   repeat' first|((first|refine mx [1,8,10,18,21] aL ?_|refine gS ?_);simp only[go_sem,hli2,hg,hs,gi,gj,hsw,sl,hw5,hw6,zAo,aU,w2])|refine hU ?_|fail
   exact⟨(i2+1,j2-1,Sort.swp D i2 j2),⟨w1,by simp only[bP];exact w2,by simp only;omega,by simp only;omega,by simp only;omega⟩,by simp only;omega,⟨rfl,rfl⟩,rfl⟩
 rintro⟨j,D⟩ ⟨w1,w2,w3⟩;simp only at w2 w3 ⊢;rw[←w1]at hR;have gi:=aP (d:=D) (show j<D.size by omega)
 have gj:=aP (d:=D) (show a<D.size by omega)
 have hsw:=dH (d:=D) (show j<D.size by omega) (show a<D.size by omega)
 have sl:=fL D w2 (show j<n by omega)
 repeat' first|((first|refine mx [1,8,10,18,21] aL ?_|refine gS ?_);simp only[go_sem,hg,hs,gi,gj,hsw,sl,zAo,aU,w2])|refine hU ?_|fail
 rw[←hR];exact eE (dL _ _ _) (by simp only[go_sem]) _ ⟨rfl,rfl⟩
end
end Go.Proofs.YtigedpfipifefaaGreatDoor

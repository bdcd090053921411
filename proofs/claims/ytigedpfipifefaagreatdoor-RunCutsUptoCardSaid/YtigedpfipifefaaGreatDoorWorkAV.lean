/- What the functions of this seat answer (22 of 40). No condition. -/
import Derived.Test.YtigedpfipifefaaGreatDoorWorkAR
set_option linter.unusedSimpArgs false
set_option linter.unusedVariables false
set_option linter.unusedSectionVars false
set_option maxRecDepth 100000
set_option maxHeartbeats 16000000
namespace Go.Proofs.YtigedpfipifefaaGreatDoor
def bE:List Pl:=[.free,.free,.free,.free,.free,.free,.free,.free,.pure 0,.pure 0,.free,.free,.pure 0,.pure 0,.pure 0,.eff [false,false,true,false,false],.pure 0,.eff [false,false]]
attribute [go_sem] bE
section
variable {lt:dV→dV→Bool} {c:dV→dV→Int} {fn:Fn} {fs cs:List AV}
theorem aGr(hc:∀x y,decide (c x y<0)=lt x y)(hf:nJ Tryz.prog (.func fn fs cs) c){d:Array dV}{a b n lc blk v:Nat}(hn:n=d.size)(hl:n≤1073741824)(hb:b≤n)(hab:a<b)(H:AHeap)(hh:hget H blk=.cells v (dC d)):
  ACalls Tryz.prog 222 [.osl 1 blk v 0 n lc,.int .i64 a,.int .i64 b,.func fn fs cs] H (fun r H'=>r=.bool (Sort.partialInsertionSort lt d a b).2∧H'=aA H blk (.cells v (dC (Sort.partialInsertionSort lt d a b).1))):=by
 refine aO Tryz.func222 ?_;have hg:=fun b=>fK hh trivial b
 have hs:=eA H blk;have hw1:IntKind.i64.wrap ((a:Int)+1)=((a+1:Nat):Int):=aB (by omega) (by omega)
 unfold Sort.partialInsertionSort;repeat' first|(refine gS ?_;simp only[go_sem,hw1])|refine hU ?_|fail
 refine aH (ι:=Nat×Nat×Array dV) (fun s=>[(0,.osl 1 blk v 0 n lc),(1,.int .i64 a),(2,.int .i64 b),(3,.func fn fs cs),(8,.bool false),(9,.int .i64 s.2.1),(10,.int .i64 ((5-s.1:Nat):Int))]) (fun s=>aA H blk (.cells v (dC s.2.2)))
  (fun s=>Sort.partialIns lt a b s.1 s.2.1 s.2.2=Sort.partialIns lt a b 5 (a+1) d∧s.2.2.size=n∧a<s.2.1∧s.2.1≤b∧s.1≤5) (fun s=>s.1) (5,a+1,d) ⟨rfl,hn.symm,by simp only;omega,by simp only;omega,zAb _⟩ ?_ (iT hh trivial).symm ?_
 ·simp[go_sem]
 rintro⟨s,i0,E⟩ ⟨w1,h2,h3,h4,h5⟩;simp only at w1 h2 h3 h4 h5 ⊢;cases s with
 |zero=>
  have hli:decide (((5-0:Nat):Int)<5)=false:=rfl;rw[Sort.partialIns]at w1;rw[←w1];repeat' first|((first|refine mx [11,17,23] bE ?_|refine gS ?_);simp only[go_sem,hli])|refine hU ?_|fail
  exact eE (dL _ _ _) (.bool _) _ ⟨rfl,rfl⟩
 |succ s=>
 have hli:decide (((5-(s+1):Nat):Int)<5)=true:=dT;have hwj:IntKind.i64.wrap (((5-(s+1):Nat):Int)+1)=((5-s:Nat):Int):=aB (by omega) (by omega)
 rw[Sort.partialIns]at w1;repeat' first|((first|refine mx [11,17,23] bE ?_|refine gS ?_);simp only[go_sem,hli])|refine hU ?_|fail
 refine dU (ι:=Nat) (fun k=>[(0,.osl 1 blk v 0 n lc),(1,.int .i64 a),(2,.int .i64 b),(3,.func fn fs cs),(8,.bool false),(9,.int .i64 k),(10,.int .i64 ((5-(s+1):Nat):Int))]) (fun _=>aA H blk (.cells v (dC E))) (fun k=>k=Sort.scanSorted lt E b i0∧a<k∧k≤b) ?_ ?_
 ·refine aH (ι:=Nat) (fun k=>[(0,.osl 1 blk v 0 n lc),(1,.int .i64 a),(2,.int .i64 b),(3,.func fn fs cs),(8,.bool false),(9,.int .i64 k),(10,.int .i64 ((5-(s+1):Nat):Int))]) (fun _=>aA H blk (.cells v (dC E))) (fun k=>Sort.scanSorted lt E b k=Sort.scanSorted lt E b i0∧a<k∧k≤b) (fun k=>b-k) i0 ⟨rfl,h3,h4⟩ ?_ rfl ?_
  ·simp[go_sem]
  rintro k ⟨k1,k2,k3⟩;rw[Sort.scanSorted]at k1;by_cases hk:k<b
  ·have hlk:decide ((k:Int)<(b:Int))=true:=dT;have hw2:IntKind.i64.wrap ((k:Int)-1)=((k-1:Nat):Int):=aB (by omega) (by omega)
   have hw3:IntKind.i64.wrap ((k:Int)+1)=((k+1:Nat):Int):=aB (by omega) (by omega)
   have gi:=aP (d:=E) (show k<E.size by omega)
   have gj:=aP (d:=E) (show(k-1)<E.size by omega)
   have hsw:=dH (d:=E) (show k<E.size by omega) (show(k-1)<E.size by omega)
   repeat' first|((first|refine mx [11,17,23] bE ?_|refine gS ?_);simp only[go_sem,hlk,hg,hs,gi,gj,hw2,zAo,aU,h2])|refine hU ?_|fail
   refine bH hf ?_;simp only[go_sem,hc];cases hxy:lt E[k]! E[k-1]! with
   |false=>
    simp only[zAg hk,zAE,hxy,zA8,zBy]at k1;repeat' first|((first|refine mx [11,17,23] bE ?_|refine gS ?_);simp only[go_sem,hxy,hw3])|refine hU ?_|fail
    exact⟨k+1,⟨k1,by omega,by omega⟩,by omega,rfl⟩
   |true=>
    simp only[zAg hk,zAE,hxy,zBs,zAr,zBd]at k1;repeat' first|((first|refine mx [11,17,23] bE ?_|refine gS ?_);simp only[go_sem,hxy])|refine hU ?_|fail
    exact⟨k,⟨k1,k2,k3⟩,rfl⟩
  ·have hlk:decide ((k:Int)<(b:Int))=false:=dF;simp only[zAh hk,zBx,zAr,zBd]at k1;repeat' first|((first|refine mx [11,17,23] bE ?_|refine gS ?_);simp only[go_sem,hlk])|refine hU ?_|fail
   exact⟨k,⟨k1,k2,k3⟩,rfl⟩
 clear h3 h4;rintro i ⟨hi,h3,h4⟩;simp only[←hi]at w1;clear hi;by_cases c0:i=b
 ·subst c0;rw[zAp rfl]at w1;have hli0:decide ((i:Int)=(i:Int))=true:=zAg rfl;repeat' first|((first|refine mx [11,17,23] bE ?_|refine gS ?_);simp only[go_sem,hli0])|refine hU ?_|fail
  rw[←w1];exact eE (dL _ _ _) (.bool _) _ ⟨rfl,rfl⟩
 have hli0:decide ((i:Int)=(b:Int))=false:=dF;rw[zAk c0]at w1;have hw2:IntKind.i64.wrap ((b:Int)-(a:Int))=((b-a:Nat):Int):=aB (by omega) (by omega)
 have hwi:IntKind.i64.wrap ((i:Int)-(a:Int))=((i-a:Nat):Int):=aB (by omega) (by omega)
 have hwi1:IntKind.i64.wrap ((i:Int)-1)=((i-1:Nat):Int):=aB (by omega) (by omega)
 have hw3:IntKind.i64.wrap ((b:Int)-(i:Int))=((b-i:Nat):Int):=aB (by omega) (by omega)
 have hw4:IntKind.i64.wrap ((i:Int)+1)=((i+1:Nat):Int):=aB (by omega) (by omega)
 by_cases c1:b-a<50
 ·rw[zAp c1]at w1;have hli1:decide (((b-a:Nat):Int)<50)=true:=dT;repeat' first|((first|refine mx [11,17,23] bE ?_|refine gS ?_);simp only[go_sem,hli0,hw2,hli1])|refine hU ?_|fail
  rw[←w1];exact eE (dL _ _ _) (.bool _) _ ⟨rfl,rfl⟩
 have hli1:decide (((b-a:Nat):Int)<50)=false:=dF;rw[zAk c1]at w1;have gi:=aP (d:=E) (show i<E.size by omega)
 have gj:=aP (d:=E) (show(i-1)<E.size by omega)
 have hsw:=dH (d:=E) (show i<E.size by omega) (show(i-1)<E.size by omega)
 have sl:=fL E h2 (show i<n by omega)
 have hE1:(Sort.swp E i (i-1)).size=n:=by rw[bP];exact h2
 by_cases c3:i-a≥2
 ·have hli3:decide (2≤((i-a:Nat):Int))=true:=dT;simp only[zAp c3]at w1;repeat' first|((first|refine mx [11,17,23] bE ?_|refine gS ?_);simp only[go_sem,hli0,hw2,hli1,hg,hs,gi,gj,hsw,sl,hwi,hwi1,hli3,zAo,aU,h2])|refine hU ?_|fail
  generalize Sort.swp E i (i-1)=E1 at *;refine dU (ι:=Array dV) (fun _=>[(0,.osl 1 blk v 0 n lc),(1,.int .i64 a),(2,.int .i64 b),(3,.func fn fs cs),(8,.bool false),(9,.int .i64 i),(10,.int .i64 ((5-(s+1):Nat):Int))]) (fun X=>aA H blk (.cells v (dC X))) (fun X=>X=Sort.shiftDown lt (i-1) E1∧X.size=n) ?_ ?_
  ·refine aH (ι:=Nat×Array dV) (fun z=>[(0,.osl 1 blk v 0 n lc),(1,.int .i64 a),(2,.int .i64 b),(3,.func fn fs cs),(8,.bool false),(9,.int .i64 i),(10,.int .i64 ((5-(s+1):Nat):Int)),(11,.int .i64 z.1)]) (fun z=>aA H blk (.cells v (dC z.2))) (fun z=>Sort.shiftDown lt z.1 z.2=Sort.shiftDown lt (i-1) E1∧z.2.size=n∧z.1<n) (fun z=>z.1) (i-1,E1) ⟨rfl,hE1,by simp only;omega⟩ ?_ rfl ?_
   ·simp[go_sem]
   rintro⟨j,X⟩ ⟨k1,k2,k3⟩;simp only at k1 k2 k3 ⊢;cases j with
   |zero=>
    have hlj:decide (1≤((0:Nat):Int))=false:=rfl;have hlj':decide ((1:Int)≤0)=false:=rfl;rw[Sort.shiftDown]at k1;repeat' first|((first|refine mx [11,17,23] bE ?_|refine gS ?_);simp only[go_sem,hlj,hlj'])|refine hU ?_|fail
    exact⟨X,⟨k1,k2⟩,rfl⟩
   |succ j=>
    have hlj:decide (1≤((j+1:Nat):Int))=true:=dT;have hw5:IntKind.i64.wrap (((j+1:Nat):Int)-1)=((j:Nat):Int):=aB (by omega) (by omega)
    have gi8:=aP (d:=X) (show(j+1)<X.size by omega)
    have gj8:=aP (d:=X) (show j<X.size by omega)
    have hsw8:=dH (d:=X) (show(j+1)<X.size by omega) (show j<X.size by omega)
    have sl8:=fL X k2 (show j+1<n by omega)
    rw[Sort.shiftDown]at k1;repeat' first|((first|refine mx [11,17,23] bE ?_|refine gS ?_);simp only[go_sem,hlj,hg,hs,gi8,gj8,hw5,zAo,aU,k2])|refine hU ?_|fail
    refine bH hf ?_;simp only[go_sem,hc];cases hxy:lt X[j+1]! X[j]! with
    |true=>
     rw[hxy,zAk (by simp)]at k1
     repeat' first|((first|refine mx [11,17,23] bE ?_|refine gS ?_);simp only[go_sem,hxy,hg,hs,gi8,gj8,hsw8,sl8,hw5,zAo,aU,k2])|refine hU ?_|fail
     exact⟨(j,Sort.swp X (j+1) j),⟨k1,by simp only[bP];exact k2,by simp only;omega⟩,zAL _,rfl,rfl⟩
    |false=>
     simp only[hxy,zA8,zBy]at k1;repeat' first|((first|refine mx [11,17,23] bE ?_|refine gS ?_);simp only[go_sem,hxy])|refine hU ?_|fail
     exact⟨X,⟨k1,k2⟩,rfl⟩
  rintro E2 ⟨e2,hE2⟩;rw[←e2]at w1;by_cases c2:b-i≥2
  ·rw[zAp c2]at w1;have hli2:decide (2≤((b-i:Nat):Int))=true:=dT;repeat' first|((first|refine mx [11,17,23] bE ?_|refine gS ?_);simp only[go_sem,hw3,hli2,hw4])|refine hU ?_|fail
   refine aH (ι:=Nat×Array dV) (fun z=>[(0,.osl 1 blk v 0 n lc),(1,.int .i64 a),(2,.int .i64 b),(3,.func fn fs cs),(8,.bool false),(9,.int .i64 i),(10,.int .i64 ((5-(s+1):Nat):Int)),(12,.int .i64 z.1)]) (fun z=>aA H blk (.cells v (dC z.2)))
    (fun z=>Sort.shiftUp lt b z.1 z.2=Sort.shiftUp lt b (i+1) E2∧z.2.size=n∧i<z.1) (fun z=>b-z.1) (i+1,E2) ⟨rfl,hE2,zAL _⟩ ?_ rfl ?_
   ·simp[go_sem]
   rintro⟨j,X⟩ ⟨k1,k2,k3⟩;simp only at k1 k2 k3 ⊢;rw[Sort.shiftUp]at k1;by_cases hj:j<b
   ·rw[zAp hj]at k1;have hli3:decide ((j:Int)<(b:Int))=true:=dT;have hw5:IntKind.i64.wrap ((j:Int)-1)=((j-1:Nat):Int):=aB (by omega) (by omega)
    have hw6:IntKind.i64.wrap ((j:Int)+1)=((j+1:Nat):Int):=aB (by omega) (by omega)
    have gi8:=aP (d:=X) (show j<X.size by omega)
    have gj8:=aP (d:=X) (show(j-1)<X.size by omega)
    have hsw8:=dH (d:=X) (show j<X.size by omega) (show(j-1)<X.size by omega)
    have sl8:=fL X k2 (show j<n by omega)
    repeat' first|((first|refine mx [11,17,23] bE ?_|refine gS ?_);simp only[go_sem,hli3,hg,hs,gi8,gj8,hw5,zAo,aU,k2])|refine hU ?_|fail
    refine bH hf ?_;simp only[go_sem,hc];cases hxy:lt X[j]! X[j-1]! with
    |true=>
     rw[hxy,zAk (by simp)]at k1
     repeat' first|((first|refine mx [11,17,23] bE ?_|refine gS ?_);simp only[go_sem,hxy,hg,hs,gi8,gj8,hsw8,sl8,hw5,hw6,zAo,aU,k2])|refine hU ?_|fail
     exact⟨(j+1,Sort.swp X j (j-1)),⟨k1,by simp only[bP];exact k2,by simp only;omega⟩,by simp only;omega,rfl,rfl⟩
    |false=>
     simp only[hxy,zA8,zBy]at k1;rw[←k1]at w1;repeat' first|((first|refine mx [11,17,23] bE ?_|refine gS ?_);simp only[go_sem,hxy,hwj])|refine hU ?_|fail
     exact⟨(s,i,X),⟨w1,k2,h3,h4,by simp only;omega⟩,zAL _,⟨rfl,rfl⟩,rfl⟩
   ·rw[zAk hj]at k1;rw[←k1]at w1;have hli3:decide ((j:Int)<(b:Int))=false:=dF;repeat' first|((first|refine mx [11,17,23] bE ?_|refine gS ?_);simp only[go_sem,hli3,hwj])|refine hU ?_|fail
    exact⟨(s,i,X),⟨w1,k2,h3,h4,by simp only;omega⟩,zAL _,⟨rfl,rfl⟩,rfl⟩
  ·rw[zAk c2]at w1;have hli2:decide (2≤((b-i:Nat):Int))=false:=dF;have k2:=hE2;repeat' first|((first|refine mx [11,17,23] bE ?_|refine gS ?_);simp only[go_sem,hw3,hli2,hwj])|refine hU ?_|fail
   exact⟨(s,i,E2),⟨w1,k2,h3,h4,by simp only;omega⟩,zAL _,⟨rfl,rfl⟩,rfl⟩
 ·have hli3:decide (2≤((i-a:Nat):Int))=false:=dF;simp only[zAk c3]at w1;by_cases c2:b-i≥2
  ·rw[zAp c2]at w1;have hli2:decide (2≤((b-i:Nat):Int))=true:=dT;repeat' first|((first|refine mx [11,17,23] bE ?_|refine gS ?_);simp only[go_sem,hli0,hw2,hli1,hg,hs,gi,gj,hsw,sl,hwi,hwi1,hli3,zAo,aU,h2,hw3,hli2,hw4])|refine hU ?_|fail
   refine aH (ι:=Nat×Array dV) (fun z=>[(0,.osl 1 blk v 0 n lc),(1,.int .i64 a),(2,.int .i64 b),(3,.func fn fs cs),(8,.bool false),(9,.int .i64 i),(10,.int .i64 ((5-(s+1):Nat):Int)),(12,.int .i64 z.1)]) (fun z=>aA H blk (.cells v (dC z.2)))
    (fun z=>Sort.shiftUp lt b z.1 z.2=Sort.shiftUp lt b (i+1) (Sort.swp E i (i-1))∧z.2.size=n∧i<z.1) (fun z=>b-z.1) (i+1,(Sort.swp E i (i-1))) ⟨rfl,hE1,zAL _⟩ ?_ rfl ?_
   ·simp[go_sem]
   rintro⟨j,X⟩ ⟨k1,k2,k3⟩;simp only at k1 k2 k3 ⊢;rw[Sort.shiftUp]at k1;by_cases hj:j<b
   ·rw[zAp hj]at k1;have hli3:decide ((j:Int)<(b:Int))=true:=dT;have hw5:IntKind.i64.wrap ((j:Int)-1)=((j-1:Nat):Int):=aB (by omega) (by omega)
    have hw6:IntKind.i64.wrap ((j:Int)+1)=((j+1:Nat):Int):=aB (by omega) (by omega)
    have gi8:=aP (d:=X) (show j<X.size by omega)
    have gj8:=aP (d:=X) (show(j-1)<X.size by omega)
    have hsw8:=dH (d:=X) (show j<X.size by omega) (show(j-1)<X.size by omega)
    have sl8:=fL X k2 (show j<n by omega)
    repeat' first|((first|refine mx [11,17,23] bE ?_|refine gS ?_);simp only[go_sem,hli3,hg,hs,gi8,gj8,hw5,zAo,aU,k2])|refine hU ?_|fail
    refine bH hf ?_;simp only[go_sem,hc];cases hxy:lt X[j]! X[j-1]! with
    |true=>
     rw[hxy,zAk (by simp)]at k1
     repeat' first|((first|refine mx [11,17,23] bE ?_|refine gS ?_);simp only[go_sem,hxy,hg,hs,gi8,gj8,hsw8,sl8,hw5,hw6,zAo,aU,k2])|refine hU ?_|fail
     exact⟨(j+1,Sort.swp X j (j-1)),⟨k1,by simp only[bP];exact k2,by simp only;omega⟩,by simp only;omega,rfl,rfl⟩
    |false=>
     simp only[hxy,zA8,zBy]at k1;rw[←k1]at w1;repeat' first|((first|refine mx [11,17,23] bE ?_|refine gS ?_);simp only[go_sem,hxy,hwj])|refine hU ?_|fail
     exact⟨(s,i,X),⟨w1,k2,h3,h4,by simp only;omega⟩,zAL _,⟨rfl,rfl⟩,rfl⟩
   ·rw[zAk hj]at k1;rw[←k1]at w1;have hli3:decide ((j:Int)<(b:Int))=false:=dF;repeat' first|((first|refine mx [11,17,23] bE ?_|refine gS ?_);simp only[go_sem,hli3,hwj])|refine hU ?_|fail
    exact⟨(s,i,X),⟨w1,k2,h3,h4,by simp only;omega⟩,zAL _,⟨rfl,rfl⟩,rfl⟩
  ·exfalso;omega
end
end Go.Proofs.YtigedpfipifefaaGreatDoor

/- The texts 28 of 53 beneath the rows of this seat (joined by program): the abstract machine, and what the functions answer. No condition. -/
import Derived.Test.YtolbeecicikoaaaGreatDoorWorkAW
set_option linter.unusedSimpArgs false
set_option linter.unusedVariables false
set_option linter.unusedSectionVars false
set_option maxRecDepth 100000
set_option maxHeartbeats 16000000
namespace Go.Proofs.YtolbeecicikoaaaGreatDoor
def bZ:List Pl:=[.free,.free,.free,.free,.free,.free,.free,.free,.pure 0,.pure 0,.free,.free,.pure 0,.pure 0,.pure 0,.eff [false,false,true,false,false],.pure 0,.eff [false,false]]
attribute [go_sem] bZ
section
variable {lt:iD→iD→Bool} {c:iD→iD→Int} {fn:Fn} {fs cs:List AV}
theorem aNM(hc:∀x y,decide (c x y<0)=lt x y)(hf:vQ Tryz.prog (.func fn fs cs) c){d:Array iD}{a b n lc blk v:Nat}(hn:n=d.size)(hl:n≤1073741824)(hb:b≤n)(hab:a<b)(H:AHeap)(hh:hget H blk=.cells v (dC d)):
  ACalls Tryz.prog 234 [.osl 1 blk v 0 n lc,.int .i64 a,.int .i64 b,.func fn fs cs] H (fun r H'=>r=.bool (Sort.partialInsertionSort lt d a b).2∧H'=aB H blk (.cells v (dC (Sort.partialInsertionSort lt d a b).1))):=by
 refine aO Tryz.func234 ?_
 have hg:=fun b=>kF hh trivial b
 have hs:=fB H blk
 have hw1:IntKind.i64.wrap ((a:Int)+1)=((a+1:Nat):Int):=aI (by omega) (by omega)
 unfold Sort.partialInsertionSort
 repeat' first|(refine gS ?_;simp only[go_sem,hw1])|refine gA ?_|(refine gD (fun h=>?_) (fun h=>?_)<;>try exact aA h)|fail
 refine aH (ι:=Nat×Nat×Array iD) (fun s=>[(0,.osl 1 blk v 0 n lc),(1,.int .i64 a),(2,.int .i64 b),(3,.func fn fs cs),(8,.bool false),(9,.int .i64 s.2.1),(10,.int .i64 ((5-s.1:Nat):Int))]) (fun s=>aB H blk (.cells v (dC s.2.2)))
  (fun s=>Sort.partialIns lt a b s.1 s.2.1 s.2.2=Sort.partialIns lt a b 5 (a+1) d∧s.2.2.size=n∧a<s.2.1∧s.2.1≤b∧s.1≤5) (fun s=>s.1) (5,a+1,d) ⟨rfl,hn.symm,by simp only;omega,by simp only;omega,zAh _⟩ ?_ (oH hh trivial).symm ?_
 ·simp[go_sem]
 rintro⟨s,i0,E⟩ ⟨w1,h2,h3,h4,h5⟩
 simp only at w1 h2 h3 h4 h5 ⊢
 cases s with
 |zero=>
  have hli:decide (((5-0:Nat):Int)<5)=false:=rfl
  rw[Sort.partialIns]at w1
  rw[←w1]
  repeat' first|((first|refine mx [11,17,23] bZ ?_|refine gS ?_);simp only[go_sem,hli])|refine gA ?_|(refine gD (fun h=>?_) (fun h=>?_)<;>try exact aA h)|fail
  exact iM (gP _ _ _) (.bool _) _ ⟨rfl,rfl⟩
 |succ s=>
 have hli:decide (((5-(s+1):Nat):Int)<5)=true:=dT
 have hwj:IntKind.i64.wrap (((5-(s+1):Nat):Int)+1)=((5-s:Nat):Int):=aI (by omega) (by omega)
 rw[Sort.partialIns]at w1
 repeat' first|((first|refine mx [11,17,23] bZ ?_|refine gS ?_);simp only[go_sem,hli])|refine gA ?_|(refine gD (fun h=>?_) (fun h=>?_)<;>try exact aA h)|fail
 refine dB (ι:=Nat) (fun k=>[(0,.osl 1 blk v 0 n lc),(1,.int .i64 a),(2,.int .i64 b),(3,.func fn fs cs),(8,.bool false),(9,.int .i64 k),(10,.int .i64 ((5-(s+1):Nat):Int))]) (fun _=>aB H blk (.cells v (dC E))) (fun k=>k=Sort.scanSorted lt E b i0∧a<k∧k≤b) ?_ ?_
 ·refine aH (ι:=Nat) (fun k=>[(0,.osl 1 blk v 0 n lc),(1,.int .i64 a),(2,.int .i64 b),(3,.func fn fs cs),(8,.bool false),(9,.int .i64 k),(10,.int .i64 ((5-(s+1):Nat):Int))]) (fun _=>aB H blk (.cells v (dC E))) (fun k=>Sort.scanSorted lt E b k=Sort.scanSorted lt E b i0∧a<k∧k≤b) (fun k=>b-k) i0 ⟨rfl,h3,h4⟩ ?_ rfl ?_
  ·simp[go_sem]
  rintro k ⟨k1,k2,k3⟩
  rw[Sort.scanSorted]at k1
  by_cases hk:k<b
  ·have hlk:decide ((k:Int)<(b:Int))=true:=dT
   have hw2:IntKind.i64.wrap ((k:Int)-1)=((k-1:Nat):Int):=aI (by omega) (by omega)
   have hw3:IntKind.i64.wrap ((k:Int)+1)=((k+1:Nat):Int):=aI (by omega) (by omega)
   have gi:=bG (d:=E) (show k<E.size by omega)
   have gj:=bG (d:=E) (show(k-1)<E.size by omega)
   have hsw:=fS (d:=E) (show k<E.size by omega) (show(k-1)<E.size by omega)
   repeat' first|((first|refine mx [11,17,23] bZ ?_|refine gS ?_);simp only[go_sem,hlk,hg,hs,gi,gj,hw2,zAz,bO,h2])|refine gA ?_|(refine gD (fun h=>?_) (fun h=>?_)<;>try exact aA h)|fail
   refine cF hf ?_
   simp only[go_sem,hc]
   cases hxy:lt E[k]! E[k-1]! with
   |false=>
    simp only[zAd hk,zAB,hxy,zBb,zAU]at k1
    repeat' first|((first|refine mx [11,17,23] bZ ?_|refine gS ?_);simp only[go_sem,hxy,hw3])|refine gA ?_|(refine gD (fun h=>?_) (fun h=>?_)<;>try exact aA h)|fail
    exact⟨k+1,⟨k1,by omega,by omega⟩,by omega,rfl⟩
   |true=>
    simp only[zAd hk,zAB,hxy,zBz,zAw,zA3]at k1
    repeat' first|((first|refine mx [11,17,23] bZ ?_|refine gS ?_);simp only[go_sem,hxy])|refine gA ?_|(refine gD (fun h=>?_) (fun h=>?_)<;>try exact aA h)|fail
    exact⟨k,⟨k1,k2,k3⟩,rfl⟩
  ·have hlk:decide ((k:Int)<(b:Int))=false:=dF
   simp only[eT hk,zBO,zAw,zA3]at k1
   repeat' first|((first|refine mx [11,17,23] bZ ?_|refine gS ?_);simp only[go_sem,hlk])|refine gA ?_|(refine gD (fun h=>?_) (fun h=>?_)<;>try exact aA h)|fail
   exact⟨k,⟨k1,k2,k3⟩,rfl⟩
 clear h3 h4
 rintro i ⟨hi,h3,h4⟩
 simp only[←hi]at w1
 clear hi
 by_cases c0:i=b
 ·subst c0
  rw[zAc rfl]at w1
  have hli0:decide ((i:Int)=(i:Int))=true:=zAd rfl
  repeat' first|((first|refine mx [11,17,23] bZ ?_|refine gS ?_);simp only[go_sem,hli0])|refine gA ?_|(refine gD (fun h=>?_) (fun h=>?_)<;>try exact aA h)|fail
  rw[←w1]
  exact iM (gP _ _ _) (.bool _) _ ⟨rfl,rfl⟩
 have hli0:decide ((i:Int)=(b:Int))=false:=dF
 rw[zAb c0]at w1
 have hw2:IntKind.i64.wrap ((b:Int)-(a:Int))=((b-a:Nat):Int):=aI (by omega) (by omega)
 have hwi:IntKind.i64.wrap ((i:Int)-(a:Int))=((i-a:Nat):Int):=aI (by omega) (by omega)
 have hwi1:IntKind.i64.wrap ((i:Int)-1)=((i-1:Nat):Int):=aI (by omega) (by omega)
 have hw3:IntKind.i64.wrap ((b:Int)-(i:Int))=((b-i:Nat):Int):=aI (by omega) (by omega)
 have hw4:IntKind.i64.wrap ((i:Int)+1)=((i+1:Nat):Int):=aI (by omega) (by omega)
 by_cases c1:b-a<50
 ·rw[zAc c1]at w1
  have hli1:decide (((b-a:Nat):Int)<50)=true:=dT
  repeat' first|((first|refine mx [11,17,23] bZ ?_|refine gS ?_);simp only[go_sem,hli0,hw2,hli1])|refine gA ?_|(refine gD (fun h=>?_) (fun h=>?_)<;>try exact aA h)|fail
  rw[←w1]
  exact iM (gP _ _ _) (.bool _) _ ⟨rfl,rfl⟩
 have hli1:decide (((b-a:Nat):Int)<50)=false:=dF
 rw[zAb c1]at w1
 have gi:=bG (d:=E) (show i<E.size by omega)
 have gj:=bG (d:=E) (show(i-1)<E.size by omega)
 have hsw:=fS (d:=E) (show i<E.size by omega) (show(i-1)<E.size by omega)
 have sl:=kJ E h2 (show i<n by omega)
 have hE1:(Sort.swp E i (i-1)).size=n:=by rw[cW];exact h2
 by_cases c3:i-a≥2
 ·have hli3:decide (2≤((i-a:Nat):Int))=true:=dT
  simp only[zAc c3]at w1
  repeat' first|((first|refine mx [11,17,23] bZ ?_|refine gS ?_);simp only[go_sem,hli0,hw2,hli1,hg,hs,gi,gj,hsw,sl,hwi,hwi1,hli3,zAz,bO,h2])|refine gA ?_|(refine gD (fun h=>?_) (fun h=>?_)<;>try exact aA h)|fail
  generalize Sort.swp E i (i-1)=E1 at *
  refine dB (ι:=Array iD) (fun _=>[(0,.osl 1 blk v 0 n lc),(1,.int .i64 a),(2,.int .i64 b),(3,.func fn fs cs),(8,.bool false),(9,.int .i64 i),(10,.int .i64 ((5-(s+1):Nat):Int))]) (fun X=>aB H blk (.cells v (dC X))) (fun X=>X=Sort.shiftDown lt (i-1) E1∧X.size=n) ?_ ?_
  ·refine aH (ι:=Nat×Array iD) (fun z=>[(0,.osl 1 blk v 0 n lc),(1,.int .i64 a),(2,.int .i64 b),(3,.func fn fs cs),(8,.bool false),(9,.int .i64 i),(10,.int .i64 ((5-(s+1):Nat):Int)),(11,.int .i64 z.1)]) (fun z=>aB H blk (.cells v (dC z.2))) (fun z=>Sort.shiftDown lt z.1 z.2=Sort.shiftDown lt (i-1) E1∧z.2.size=n∧z.1<n) (fun z=>z.1) (i-1,E1) ⟨rfl,hE1,by simp only;omega⟩ ?_ rfl ?_
   ·simp[go_sem]
   rintro⟨j,X⟩ ⟨k1,k2,k3⟩
   simp only at k1 k2 k3 ⊢
   cases j with
   |zero=>
    have hlj:decide (1≤((0:Nat):Int))=false:=rfl
    have hlj':decide ((1:Int)≤0)=false:=rfl
    rw[Sort.shiftDown]at k1
    repeat' first|((first|refine mx [11,17,23] bZ ?_|refine gS ?_);simp only[go_sem,hlj,hlj'])|refine gA ?_|(refine gD (fun h=>?_) (fun h=>?_)<;>try exact aA h)|fail
    exact⟨X,⟨k1,k2⟩,rfl⟩
   |succ j=>
    have hlj:decide (1≤((j+1:Nat):Int))=true:=dT
    have hw5:IntKind.i64.wrap (((j+1:Nat):Int)-1)=((j:Nat):Int):=aI (by omega) (by omega)
    have gi8:=bG (d:=X) (show(j+1)<X.size by omega)
    have gj8:=bG (d:=X) (show j<X.size by omega)
    have hsw8:=fS (d:=X) (show(j+1)<X.size by omega) (show j<X.size by omega)
    have sl8:=kJ X k2 (show j+1<n by omega)
    rw[Sort.shiftDown]at k1
    repeat' first|((first|refine mx [11,17,23] bZ ?_|refine gS ?_);simp only[go_sem,hlj,hg,hs,gi8,gj8,hw5,zAz,bO,k2])|refine gA ?_|(refine gD (fun h=>?_) (fun h=>?_)<;>try exact aA h)|fail
    refine cF hf ?_
    simp only[go_sem,hc]
    cases hxy:lt X[j+1]! X[j]! with
    |true=>
     rw[hxy,zAb (by simp)]at k1
     repeat' first|((first|refine mx [11,17,23] bZ ?_|refine gS ?_);simp only[go_sem,hxy,hg,hs,gi8,gj8,hsw8,sl8,hw5,zAz,bO,k2])|refine gA ?_|(refine gD (fun h=>?_) (fun h=>?_)<;>try exact aA h)|fail
     exact⟨(j,Sort.swp X (j+1) j),⟨k1,by simp only[cW];exact k2,by simp only;omega⟩,zAT _,rfl,rfl⟩
    |false=>
     simp only[hxy,zBb,zAU]at k1
     repeat' first|((first|refine mx [11,17,23] bZ ?_|refine gS ?_);simp only[go_sem,hxy])|refine gA ?_|(refine gD (fun h=>?_) (fun h=>?_)<;>try exact aA h)|fail
     exact⟨X,⟨k1,k2⟩,rfl⟩
  rintro E2 ⟨e2,hE2⟩
  rw[←e2]at w1
  by_cases c2:b-i≥2
  ·rw[zAc c2]at w1
   have hli2:decide (2≤((b-i:Nat):Int))=true:=dT
   repeat' first|((first|refine mx [11,17,23] bZ ?_|refine gS ?_);simp only[go_sem,hw3,hli2,hw4])|refine gA ?_|(refine gD (fun h=>?_) (fun h=>?_)<;>try exact aA h)|fail
   refine aH (ι:=Nat×Array iD) (fun z=>[(0,.osl 1 blk v 0 n lc),(1,.int .i64 a),(2,.int .i64 b),(3,.func fn fs cs),(8,.bool false),(9,.int .i64 i),(10,.int .i64 ((5-(s+1):Nat):Int)),(12,.int .i64 z.1)]) (fun z=>aB H blk (.cells v (dC z.2)))
    (fun z=>Sort.shiftUp lt b z.1 z.2=Sort.shiftUp lt b (i+1) E2∧z.2.size=n∧i<z.1) (fun z=>b-z.1) (i+1,E2) ⟨rfl,hE2,zAT _⟩ ?_ rfl ?_
   ·simp[go_sem]
   rintro⟨j,X⟩ ⟨k1,k2,k3⟩
   simp only at k1 k2 k3 ⊢
   rw[Sort.shiftUp]at k1
   by_cases hj:j<b
   ·rw[zAc hj]at k1
    have hli3:decide ((j:Int)<(b:Int))=true:=dT
    have hw5:IntKind.i64.wrap ((j:Int)-1)=((j-1:Nat):Int):=aI (by omega) (by omega)
    have hw6:IntKind.i64.wrap ((j:Int)+1)=((j+1:Nat):Int):=aI (by omega) (by omega)
    have gi8:=bG (d:=X) (show j<X.size by omega)
    have gj8:=bG (d:=X) (show(j-1)<X.size by omega)
    have hsw8:=fS (d:=X) (show j<X.size by omega) (show(j-1)<X.size by omega)
    have sl8:=kJ X k2 (show j<n by omega)
    repeat' first|((first|refine mx [11,17,23] bZ ?_|refine gS ?_);simp only[go_sem,hli3,hg,hs,gi8,gj8,hw5,zAz,bO,k2])|refine gA ?_|(refine gD (fun h=>?_) (fun h=>?_)<;>try exact aA h)|fail
    refine cF hf ?_
    simp only[go_sem,hc]
    cases hxy:lt X[j]! X[j-1]! with
    |true=>
     rw[hxy,zAb (by simp)]at k1
     repeat' first|((first|refine mx [11,17,23] bZ ?_|refine gS ?_);simp only[go_sem,hxy,hg,hs,gi8,gj8,hsw8,sl8,hw5,hw6,zAz,bO,k2])|refine gA ?_|(refine gD (fun h=>?_) (fun h=>?_)<;>try exact aA h)|fail
     exact⟨(j+1,Sort.swp X j (j-1)),⟨k1,by simp only[cW];exact k2,by simp only;omega⟩,by simp only;omega,rfl,rfl⟩
    |false=>
     simp only[hxy,zBb,zAU]at k1
     rw[←k1]at w1
     repeat' first|((first|refine mx [11,17,23] bZ ?_|refine gS ?_);simp only[go_sem,hxy,hwj])|refine gA ?_|(refine gD (fun h=>?_) (fun h=>?_)<;>try exact aA h)|fail
     exact⟨(s,i,X),⟨w1,k2,h3,h4,by simp only;omega⟩,zAT _,⟨rfl,rfl⟩,rfl⟩
   ·rw[zAb hj]at k1
    rw[←k1]at w1
    have hli3:decide ((j:Int)<(b:Int))=false:=dF
    repeat' first|((first|refine mx [11,17,23] bZ ?_|refine gS ?_);simp only[go_sem,hli3,hwj])|refine gA ?_|(refine gD (fun h=>?_) (fun h=>?_)<;>try exact aA h)|fail
    exact⟨(s,i,X),⟨w1,k2,h3,h4,by simp only;omega⟩,zAT _,⟨rfl,rfl⟩,rfl⟩
  ·rw[zAb c2]at w1
   have hli2:decide (2≤((b-i:Nat):Int))=false:=dF
   have k2:=hE2
   repeat' first|((first|refine mx [11,17,23] bZ ?_|refine gS ?_);simp only[go_sem,hw3,hli2,hwj])|refine gA ?_|(refine gD (fun h=>?_) (fun h=>?_)<;>try exact aA h)|fail
   exact⟨(s,i,E2),⟨w1,k2,h3,h4,by simp only;omega⟩,zAT _,⟨rfl,rfl⟩,rfl⟩
 ·have hli3:decide (2≤((i-a:Nat):Int))=false:=dF
  simp only[zAb c3]at w1
  by_cases c2:b-i≥2
  ·rw[zAc c2]at w1
   have hli2:decide (2≤((b-i:Nat):Int))=true:=dT
   repeat' first|((first|refine mx [11,17,23] bZ ?_|refine gS ?_);simp only[go_sem,hli0,hw2,hli1,hg,hs,gi,gj,hsw,sl,hwi,hwi1,hli3,zAz,bO,h2,hw3,hli2,hw4])|refine gA ?_|(refine gD (fun h=>?_) (fun h=>?_)<;>try exact aA h)|fail
   refine aH (ι:=Nat×Array iD) (fun z=>[(0,.osl 1 blk v 0 n lc),(1,.int .i64 a),(2,.int .i64 b),(3,.func fn fs cs),(8,.bool false),(9,.int .i64 i),(10,.int .i64 ((5-(s+1):Nat):Int)),(12,.int .i64 z.1)]) (fun z=>aB H blk (.cells v (dC z.2)))
    (fun z=>Sort.shiftUp lt b z.1 z.2=Sort.shiftUp lt b (i+1) (Sort.swp E i (i-1))∧z.2.size=n∧i<z.1) (fun z=>b-z.1) (i+1,(Sort.swp E i (i-1))) ⟨rfl,hE1,zAT _⟩ ?_ rfl ?_
   ·simp[go_sem]
   rintro⟨j,X⟩ ⟨k1,k2,k3⟩
   simp only at k1 k2 k3 ⊢
   rw[Sort.shiftUp]at k1
   by_cases hj:j<b
   ·rw[zAc hj]at k1
    have hli3:decide ((j:Int)<(b:Int))=true:=dT
    have hw5:IntKind.i64.wrap ((j:Int)-1)=((j-1:Nat):Int):=aI (by omega) (by omega)
    have hw6:IntKind.i64.wrap ((j:Int)+1)=((j+1:Nat):Int):=aI (by omega) (by omega)
    have gi8:=bG (d:=X) (show j<X.size by omega)
    have gj8:=bG (d:=X) (show(j-1)<X.size by omega)
    have hsw8:=fS (d:=X) (show j<X.size by omega) (show(j-1)<X.size by omega)
    have sl8:=kJ X k2 (show j<n by omega)
    repeat' first|((first|refine mx [11,17,23] bZ ?_|refine gS ?_);simp only[go_sem,hli3,hg,hs,gi8,gj8,hw5,zAz,bO,k2])|refine gA ?_|(refine gD (fun h=>?_) (fun h=>?_)<;>try exact aA h)|fail
    refine cF hf ?_
    simp only[go_sem,hc]
    cases hxy:lt X[j]! X[j-1]! with
    |true=>
     rw[hxy,zAb (by simp)]at k1
     repeat' first|((first|refine mx [11,17,23] bZ ?_|refine gS ?_);simp only[go_sem,hxy,hg,hs,gi8,gj8,hsw8,sl8,hw5,hw6,zAz,bO,k2])|refine gA ?_|(refine gD (fun h=>?_) (fun h=>?_)<;>try exact aA h)|fail
     exact⟨(j+1,Sort.swp X j (j-1)),⟨k1,by simp only[cW];exact k2,by simp only;omega⟩,by simp only;omega,rfl,rfl⟩
    |false=>
     simp only[hxy,zBb,zAU]at k1
     rw[←k1]at w1
     repeat' first|((first|refine mx [11,17,23] bZ ?_|refine gS ?_);simp only[go_sem,hxy,hwj])|refine gA ?_|(refine gD (fun h=>?_) (fun h=>?_)<;>try exact aA h)|fail
     exact⟨(s,i,X),⟨w1,k2,h3,h4,by simp only;omega⟩,zAT _,⟨rfl,rfl⟩,rfl⟩
   ·rw[zAb hj]at k1
    rw[←k1]at w1
    have hli3:decide ((j:Int)<(b:Int))=false:=dF
    repeat' first|((first|refine mx [11,17,23] bZ ?_|refine gS ?_);simp only[go_sem,hli3,hwj])|refine gA ?_|(refine gD (fun h=>?_) (fun h=>?_)<;>try exact aA h)|fail
    exact⟨(s,i,X),⟨w1,k2,h3,h4,by simp only;omega⟩,zAT _,⟨rfl,rfl⟩,rfl⟩
  ·exfalso;omega
end
end Go.Proofs.YtolbeecicikoaaaGreatDoor

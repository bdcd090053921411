/- What the functions of this seat answer (15 of 40). No condition. -/
import Derived.Test.YtigedpfipifefaaGreatDoorWorkAL
import Derived.Sort.AssemblyPlain
set_option linter.unusedSimpArgs false
set_option linter.unusedVariables false
set_option linter.unusedSectionVars false
set_option maxRecDepth 100000
set_option maxHeartbeats 16000000
namespace Go.Proofs.YtigedpfipifefaaGreatDoor
abbrev dV:={s:Txt // s.length≤1073741824}
instance:Inhabited dV:=⟨⟨[],by simp⟩⟩
def dC(d:Array dV):List AV:=d.toList.map fun x=>AV.str x.1
theorem aU(d:Array dV):(dC d).length=d.size:=by simp[dC]
theorem aP{d:Array dV}{i:Nat}(h:i<d.size):(dC d).getD i .top=.str (d[i]!).1:=by
 simp[dC,zAm,h]
theorem rP(cs:List AV)(i:Nat)(x:AV)(h:i<cs.length):bI cs i [x]=cs.set i x:=by
 rw[List.set_eq_take_append_cons_drop,zAp h];simp[bI]
theorem aDU(d:Array dV)(i:Nat)(x:dV)(h:i<d.size):bI (dC d) i [.str x.1]=dC (d.setIfInBounds i x):=by
 rw[rP _ _ _ (by rw[aU];exact h)]
 simp[dC,Array.toList_setIfInBounds,List.map_set]
theorem bP(d:Array dV)(i j:Nat):(Sort.swp d i j).size=d.size:=by simp[Sort.swp]
theorem dH{d:Array dV}{i j:Nat}(hi:i<d.size)(hj:j<d.size):bI (bI (dC d) i [.str (d[j]!).1]) j [.str (d[i]!).1]=dC (Sort.swp d i j):=by
 rw[aDU _ _ _ hi,aDU _ _ _ (by simpa using hj)];rfl
theorem aJw{cs:List AV}{i:Nat}{x:AV}(h:i<cs.length):(bI cs i [x]).length=cs.length:=by rw[rP _ _ _ h,List.length_set]
theorem fL(d:Array dV){i n:Nat}(hn:d.size=n)(h:i<n)(x:AV):(bI (dC d) i [x]).length=n:=by rw[aJw (by rw[aU,hn];exact h),aU,hn]
theorem dL(n v:Nat)(d:Array dV):ClB n (.cells v (dC d)):=fun x hx=>by
 obtain⟨y,_,rfl⟩:=zAi.1 hx;exact .str _
def nJ(P:Program)(f:AV)(c:Go.Proofs.YtigedpfipifefaaGreatDoor.dV→Go.Proofs.YtigedpfipifefaaGreatDoor.dV→Int):Prop:=∀a b H,ACall P f [.str a.1,.str b.1] H (fun v H'=>v=.int .i64 (c a b)∧H'=H)
theorem bH{P:Program}{g:Bool}{f:AV}{c:Go.Proofs.YtigedpfipifefaaGreatDoor.dV→Go.Proofs.YtigedpfipifefaaGreatDoor.dV→Int}{a b:Go.Proofs.YtigedpfipifefaaGreatDoor.dV}{H:AHeap}{K:AV→Prop}(h:nJ P f c)(hk:K (.int .i64 (c a b))):gO P g f [.str a.1,.str b.1] H K:=⟨_,fun _=>h a b H,hk⟩
def xQ:List Pl:=[.free,.free,.free,.free,.free,.free,.pure 0,.pure 0,.free,.free,.pure 0,.pure 0,.pure 0,.eff [false,false,true,false,false],.pure 0,.eff [false,false]]
def kY:List Pl:=[.free,.free,.free,.free,.free,.free,.free,.free,.pure 0,.pure 0,.free,.free,.pure 0,.pure 0,.pure 0,.eff [false,false,true,false,false],.pure 0,.eff [false,false]]
def eB:List Pl:=[.free,.free,.free,.free,.free,.free,.free,.free,.free,.free,.free,.free,.pure 0,.pure 0,.free,.free,.free,.free,.pure 0,.pure 0,.pure 0,.eff [false,false,true,false,false],.pure 0,.eff [false,false]]
def xR:List Pl:=[.free,.free,.free,.free,.free,.free,.free,.free,.free,.free,.pure 0,.pure 0,.free,.free,.pure 0,.pure 0,.pure 0,.eff [false,false,true,false,false],.pure 0,.eff [false,false]]
attribute [go_sem] xQ kY eB xR
theorem aJx{d:Array dV}{a b n lc blk v:Nat}(hn:n=d.size)(hl:n≤1073741824)(hb:b≤n)(hb1:1≤b)(F:AV)(H:AHeap)(hh:hget H blk=.cells v (dC d)):
  ACalls Tryz.prog 221 [.osl 1 blk v 0 n lc,.int .i64 a,.int .i64 b,F] H (fun r H'=>r=.tup []∧H'=aA H blk (.cells v (dC (Sort.reverseRange d a b)))):=by
 refine aO Tryz.func221 ?_;have hg:=fun b=>fK hh trivial b
 have hs:=eA H blk;have hw:IntKind.i64.wrap ((b:Int)-1)=((b-1:Nat):Int):=aB (by omega) (by omega)
 repeat' first|(refine gS ?_;simp only[go_sem,hw])|refine hU ?_|fail
 refine aH (ι:=Nat×Nat×Array dV) (fun s=>[(0,.osl 1 blk v 0 n lc),(8,.int .i64 s.1),(9,.int .i64 s.2.1)]) (fun s=>aA H blk (.cells v (dC s.2.2)))
  (fun s=>Sort.reverseLoop s.1 s.2.1 s.2.2=Sort.reverseRange d a b∧s.2.2.size=n∧s.2.1<n) (fun s=>s.2.1-s.1) (a,b-1,d) ⟨rfl,hn.symm,by simp only;omega⟩ ?_ (iT hh trivial).symm ?_
 ·simp[go_sem]
 rintro⟨i,j,E⟩ ⟨h1,h2,h3⟩;simp only at h1 h2 h3 ⊢;by_cases hlt:i<j
 ·have hli:decide ((i:Int)<(j:Int))=true:=dT;have gi:=aP (d:=E) (show i<E.size by omega)
  have gj:=aP (d:=E) (show j<E.size by omega)
  have hsw:=dH (d:=E) (show i<E.size by omega) (show j<E.size by omega)
  have hw1:IntKind.i64.wrap ((i:Int)+1)=((i+1:Nat):Int):=aB (by omega) (by omega)
  have hw2:IntKind.i64.wrap ((j:Int)-1)=((j-1:Nat):Int):=aB (by omega) (by omega)
  have sl:=fL E h2 (show i<n by omega)
  repeat' first|((first|refine mx [3] xQ ?_|refine gS ?_);simp only[go_sem,hli,hg,hs,gi,gj,hsw,hw1,hw2,zAo,aU,h2,sl])|refine hU ?_|fail
  rw[Sort.reverseLoop,zAp hlt]at h1;exact⟨(i+1,j-1,Sort.swp E i j),⟨h1,by simp only[bP];exact h2,by simp only;omega⟩,by simp only;omega,⟨rfl,rfl⟩,rfl⟩
 ·have hli:decide ((i:Int)<(j:Int))=false:=dF;repeat' first|(refine gS ?_;simp only[go_sem,hli])|refine hU ?_|fail
  rw[Sort.reverseLoop,zAk hlt]at h1;rw[←h1];exact eN (dL _ _ _) _ ⟨rfl,rfl⟩
section
variable {lt:dV→dV→Bool} {c:dV→dV→Int} {fn:Fn} {fs cs:List AV}
theorem aDV(hc:∀x y,decide (c x y<0)=lt x y)(hf:nJ Tryz.prog (.func fn fs cs) c){d:Array dV}{a b n lc blk v:Nat}(hn:n=d.size)(hl:n≤1073741824)(hb:b≤n)(hab:a≤b)(H:AHeap)(hh:hget H blk=.cells v (dC d)):
  ACalls Tryz.prog 217 [.osl 1 blk v 0 n lc,.int .i64 a,.int .i64 b,.func fn fs cs] H (fun r H'=>r=.tup []∧H'=aA H blk (.cells v (dC (Sort.insertionSort lt d a b)))):=by
 refine aO Tryz.func217 ?_;have hg:=fun b=>fK hh trivial b
 have hs:=eA H blk;have hw:IntKind.i64.wrap ((a:Int)+1)=((a+1:Nat):Int):=aB (by omega) (by omega)
 repeat' first|(refine gS ?_;simp only[go_sem,hw])|refine hU ?_|fail
 refine aH (ι:=Nat×Array dV) (fun s=>[(0,.osl 1 blk v 0 n lc),(1,.int .i64 a),(2,.int .i64 b),(3,.func fn fs cs),(8,.int .i64 s.1)]) (fun s=>aA H blk (.cells v (dC s.2)))
  (fun s=>Sort.insOuter lt a b s.1 s.2=Sort.insertionSort lt d a b∧s.2.size=n∧a<s.1) (fun s=>b-s.1) (a+1,d) ⟨rfl,hn.symm,zAL _⟩ ?_ (iT hh trivial).symm ?_
 ·simp[go_sem]
 rintro⟨i,E⟩ ⟨h1,h2,h3⟩;simp only at h1 h2 h3 ⊢;by_cases hlt:i<b
 ·rw[Sort.insOuter,zAp hlt]at h1;have hli:decide ((i:Int)<(b:Int))=true:=dT;have hw1:IntKind.i64.wrap ((i:Int)+1)=((i+1:Nat):Int):=aB (by omega) (by omega)
  repeat' first|(refine gS ?_;simp only[go_sem,hli])|refine hU ?_|fail
  refine aH (ι:=Nat×Array dV) (fun s=>[(0,.osl 1 blk v 0 n lc),(1,.int .i64 a),(2,.int .i64 b),(3,.func fn fs cs),(8,.int .i64 i),(9,.int .i64 s.1)]) (fun s=>aA H blk (.cells v (dC s.2)))
   (fun s=>Sort.insInner lt a s.1 s.2=Sort.insInner lt a i E∧s.2.size=n∧s.1≤i) (fun s=>s.1) (i,E) ⟨rfl,h2,zAb _⟩ ?_ rfl ?_
  ·simp[go_sem]
  rintro⟨j,D⟩ ⟨k1,k2,k3⟩;simp only at k1 k2 k3 ⊢;by_cases hj:a<j
  ·obtain⟨p,rfl⟩:∃p,j=p+1:=⟨j-1,by omega⟩
   have hli2:decide ((a:Int)<((p+1:Nat):Int))=true:=dT;have gi:=aP (d:=D) (show p+1<D.size by omega)
   have gj:=aP (d:=D) (show p<D.size by omega)
   have hsw:=dH (d:=D) (show p+1<D.size by omega) (show p<D.size by omega)
   have sl:=fL D k2 (show p+1<n by omega)
   have hw2:IntKind.i64.wrap (((p+1:Nat):Int)-1)=((p:Nat):Int):=aB (by omega) (by omega)
   rw[Sort.insInner]at k1;have hap:decide (p+1>a)=true:=zAg hj;rw[hap,zAE]at k1;repeat' first|((first|refine mx [6] kY ?_|refine gS ?_);simp only[go_sem,hli2,hg,hs,gi,gj,hw2,zAo,aU,k2])|refine hU ?_|fail
   refine bH hf ?_;simp only[go_sem,hc];cases hxy:lt D[p+1]! D[p]! with
   |true=>
    rw[hxy,zAp rfl]at k1;repeat' first|((first|refine mx [6] kY ?_|refine gS ?_);simp only[go_sem,hxy,hg,hs,gi,gj,hsw,hw2,zAo,aU,k2,sl])|refine hU ?_|fail
    exact⟨(p,Sort.swp D (p+1) p),⟨k1,by simp only[bP];exact k2,by simp only;omega⟩,zAL _,rfl,rfl⟩
   |false=>
    rw[hxy,zAk (by simp)]at k1
    repeat' first|((first|refine mx [6] kY ?_|refine gS ?_);simp only[go_sem,hxy,hg,hs,hw1])|refine hU ?_|fail
    exact⟨(i+1,D),⟨by rw[←k1]at h1;exact h1,k2,by simp only;omega⟩,by simp only;omega,rfl,rfl⟩
  ·have hli2:decide ((a:Int)<(j:Int))=false:=dF;have k4:Sort.insInner lt a j D=D:=by
    cases j with
    |zero=>rfl
    |succ p=>rw[Sort.insInner,zAk (by rw[dF];simp)]
   rw[k4]at k1;repeat' first|((first|refine mx [6] kY ?_|refine gS ?_);simp only[go_sem,hli2,hg,hs,hw1])|refine hU ?_|fail
   exact⟨(i+1,D),⟨by rw[←k1]at h1;exact h1,k2,by simp only;omega⟩,by simp only;omega,rfl,rfl⟩
 ·have hli:decide ((i:Int)<(b:Int))=false:=dF;repeat' first|(refine gS ?_;simp only[go_sem,hli])|refine hU ?_|fail
  rw[Sort.insOuter,zAk hlt]at h1;rw[←h1];exact eN (dL _ _ _) _ ⟨rfl,rfl⟩
theorem aA7(hc:∀x y,decide (c x y<0)=lt x y)(hf:nJ Tryz.prog (.func fn fs cs) c){d:Array dV}{lo hi f n lc blk v:Nat}(hn:n=d.size)(hl:n≤1073741824)(hb:f+hi≤n)(hlo:lo≤n)(H:AHeap)(hh:hget H blk=.cells v (dC d)):
  ACalls Tryz.prog 266 [.osl 1 blk v 0 n lc,.int .i64 lo,.int .i64 hi,.int .i64 f,.func fn fs cs] H (fun r H'=>r=.tup []∧H'=aA H blk (.cells v (dC (Sort.siftDown lt hi f lo d)))):=by
 refine aO Tryz.func266 ?_;have hg:=fun b=>fK hh trivial b
 have hs:=eA H blk;repeat' first|(refine gS ?_;simp only[go_sem])|refine hU ?_|fail
 refine aH (ι:=Nat×Array dV) (fun s=>[(0,.osl 1 blk v 0 n lc),(2,.int .i64 hi),(3,.int .i64 f),(4,.func fn fs cs),(10,.int .i64 s.1)]) (fun s=>aA H blk (.cells v (dC s.2)))
  (fun s=>Sort.siftDown lt hi f s.1 s.2=Sort.siftDown lt hi f lo d∧s.2.size=n∧s.1≤n) (fun s=>hi-s.1) (lo,d) ⟨rfl,hn.symm,hlo⟩ ?_ (iT hh trivial).symm ?_
 ·simp[go_sem]
 rintro⟨r,E⟩ ⟨h1,h2,hr⟩;simp only at h1 h2 hr ⊢;rw[Sort.siftDown]at h1;by_cases c1:2 * r+1≥hi
 ·rw[dif_pos c1]at h1;have hw0:IntKind.i64.wrap (2 * (r:Int))=((2 * r:Nat):Int):=aB (by omega) (by omega)
  have hw1:IntKind.i64.wrap (((2 * r:Nat):Int)+1)=((2 * r+1:Nat):Int):=aB (by omega) (by omega)
  have hli:decide ((hi:Int)≤((2 * r+1:Nat):Int))=true:=dT;repeat' first|(refine gS ?_;simp only[go_sem,hw0,hw1,hli])|refine hU ?_|fail
  rw[←h1];exact eN (dL _ _ _) _ ⟨rfl,rfl⟩
 have hw0:IntKind.i64.wrap (2 * (r:Int))=((2 * r:Nat):Int):=aB (by omega) (by omega)
 have hw1:IntKind.i64.wrap (((2 * r:Nat):Int)+1)=((2 * r+1:Nat):Int):=aB (by omega) (by omega)
 have hw2:IntKind.i64.wrap (((2 * r+1:Nat):Int)+1)=((2 * r+2:Nat):Int):=aB (by omega) (by omega)
 have hw3:IntKind.i64.wrap ((f:Int)+((2 * r+1:Nat):Int))=((f+(2 * r+1):Nat):Int):=aB (by omega) (by omega)
 have hw4:IntKind.i64.wrap (((f+(2 * r+1):Nat):Int)+1)=((f+(2 * r+1)+1:Nat):Int):=aB (by omega) (by omega)
 have hw5:IntKind.i64.wrap ((f:Int)+(r:Int))=((f+r:Nat):Int):=aB (by omega) (by omega)
 have hw6:IntKind.i64.wrap ((f:Int)+((2 * r+2:Nat):Int))=((f+(2 * r+2):Nat):Int):=aB (by omega) (by omega)
 have hli:decide ((hi:Int)≤((2 * r+1:Nat):Int))=false:=dF;have gr:=aP (d:=E) (show f+r<E.size by omega)
 have gc:=aP (d:=E) (show f+(2 * r+1)<E.size by omega)
 rw[dif_neg c1]at h1;by_cases c2:2 * r+1+1<hi
 ·have hli2:decide (((2 * r+2:Nat):Int)<(hi:Int))=true:=dT;rw[show f+(2 * r+1)+1=f+(2 * r+2) by omega]at h1
  have gd2:=aP (d:=E) (show f+(2 * r+2)<E.size by omega)
  rw[zAg c2,zAE]at h1;repeat' first|((first|refine mx [6] eB ?_|refine gS ?_);simp only[go_sem,hg,hs,hw0,hw1,hw2,hw3,hw4,hw5,hw6,hli,gr,gc,zAo,aU,h2,hli2,gd2])|refine hU ?_|fail
  refine bH hf ?_;simp only[go_sem,hc];cases hxy:lt E[f+(2 * r+1)]! E[f+(2 * r+2)]! with
  |true=>
   rw[hxy,zAp rfl,dif_pos (show 2 * r+2<hi by omega)]at h1
   repeat' first|((first|refine mx [6] eB ?_|refine gS ?_);simp only[go_sem,hxy,hg,hs,hw0,hw1,hw2,hw3,hw4,hw5,hw6,hli,gr,gc,zAo,aU,h2,hli2,gd2])|refine hU ?_|fail
   refine bH hf ?_;simp only[go_sem,hc];cases hyz:lt E[f+r]! E[f+(2 * r+2)]! with
   |true=>
    rw[hyz]at h1;have hsw:=dH (d:=E) (show f+r<E.size by omega) (show f+(2 * r+2)<E.size by omega)
    have sl:=fL E h2 (show f+r<n by omega)
    repeat' first|((first|refine mx [6] eB ?_|refine gS ?_);simp only[go_sem,hyz,hg,hs,hw0,hw1,hw2,hw3,hw4,hw5,hw6,hli,gr,gc,zAo,aU,h2,gd2,hsw,sl])|refine hU ?_|fail
    exact⟨(2 * r+2,Sort.swp E (f+r) (f+(2 * r+2))),⟨h1,by simp only[bP];exact h2,by simp only;omega⟩,by simp only;omega,rfl,rfl⟩
   |false=>
    rw[hyz]at h1;repeat' first|((first|refine mx [6] eB ?_|refine gS ?_);simp only[go_sem,hyz,hg,hs,hw0,hw1,hw2,hw3,hw4,hw5,hw6,hli,gr,gc,zAo,aU,h2,gd2])|refine hU ?_|fail
    rw[←(show E=Sort.siftDown lt hi f lo d from h1)]
    exact eN (dL _ _ _) _ ⟨rfl,rfl⟩
  |false=>
   rw[hxy,zAk (by simp)]at h1
   repeat' first|((first|refine mx [6] eB ?_|refine gS ?_);simp only[go_sem,hxy,hg,hs,hw0,hw1,hw2,hw3,hw4,hw5,hw6,hli,gr,gc,zAo,aU,h2,hli2])|refine hU ?_|fail
   refine bH hf ?_;simp only[go_sem,hc];cases hyz:lt E[f+r]! E[f+(2 * r+1)]! with
   |true=>
    rw[hyz]at h1;have hsw:=dH (d:=E) (show f+r<E.size by omega) (show f+(2 * r+1)<E.size by omega)
    have sl:=fL E h2 (show f+r<n by omega)
    repeat' first|((first|refine mx [6] eB ?_|refine gS ?_);simp only[go_sem,hyz,hg,hs,hw0,hw1,hw2,hw3,hw4,hw5,hw6,hli,gr,gc,zAo,aU,h2,hsw,sl])|refine hU ?_|fail
    exact⟨(2 * r+1,Sort.swp E (f+r) (f+(2 * r+1))),⟨h1,by simp only[bP];exact h2,by simp only;omega⟩,by simp only;omega,rfl,rfl⟩
   |false=>
    rw[hyz]at h1;repeat' first|((first|refine mx [6] eB ?_|refine gS ?_);simp only[go_sem,hyz,hg,hs,hw0,hw1,hw2,hw3,hw4,hw5,hw6,hli,gr,gc,zAo,aU,h2])|refine hU ?_|fail
    rw[←(show E=Sort.siftDown lt hi f lo d from h1)]
    exact eN (dL _ _ _) _ ⟨rfl,rfl⟩
 ·have hli2:decide (((2 * r+2:Nat):Int)<(hi:Int))=false:=dF;rw[zAh c2,zBx,zAk (by simp)]at h1
  repeat' first|((first|refine mx [6] eB ?_|refine gS ?_);simp only[go_sem,hg,hs,hw0,hw1,hw2,hw3,hw4,hw5,hw6,hli,gr,gc,zAo,aU,h2,hli2])|refine hU ?_|fail
  refine bH hf ?_;simp only[go_sem,hc];cases hyz:lt E[f+r]! E[f+(2 * r+1)]! with
  |true=>
   rw[hyz]at h1;have hsw:=dH (d:=E) (show f+r<E.size by omega) (show f+(2 * r+1)<E.size by omega)
   have sl:=fL E h2 (show f+r<n by omega)
   repeat' first|((first|refine mx [6] eB ?_|refine gS ?_);simp only[go_sem,hyz,hg,hs,hw0,hw1,hw2,hw3,hw4,hw5,hw6,hli,gr,gc,zAo,aU,h2,hsw,sl])|refine hU ?_|fail
   exact⟨(2 * r+1,Sort.swp E (f+r) (f+(2 * r+1))),⟨h1,by simp only[bP];exact h2,by simp only;omega⟩,by simp only;omega,rfl,rfl⟩
  |false=>
   rw[hyz]at h1;repeat' first|((first|refine mx [6] eB ?_|refine gS ?_);simp only[go_sem,hyz,hg,hs,hw0,hw1,hw2,hw3,hw4,hw5,hw6,hli,gr,gc,zAo,aU,h2])|refine hU ?_|fail
   rw[←(show E=Sort.siftDown lt hi f lo d from h1)]
   exact eN (dL _ _ _) _ ⟨rfl,rfl⟩
theorem lV(hi f:Nat):∀(m r:Nat) (d:Array dV),hi-r≤m→(Sort.siftDown lt hi f r d).size=d.size:=by
 intro m;induction m with
 |zero=>intro r d h;rw[Sort.siftDown,dif_pos (by omega)]
 |succ m ih=>
  intro r d h;rw[Sort.siftDown];repeat' split
  all_goals first|rfl|(rw[ih _ _ (by omega),bP])
theorem aGl(hc:∀x y,decide (c x y<0)=lt x y)(hf:nJ Tryz.prog (.func fn fs cs) c){d:Array dV}{a b n lc blk v:Nat}(hn:n=d.size)(hl:n≤1073741824)(hb:b≤n)(hab:a<b)(H:AHeap)(hh:hget H blk=.cells v (dC d)):
  ACalls Tryz.prog 218 [.osl 1 blk v 0 n lc,.int .i64 a,.int .i64 b,.func fn fs cs] H (fun r H'=>r=.tup []∧H'=aA H blk (.cells v (dC (Sort.heapSort lt d a b)))):=by
 refine aO Tryz.func218 ?_;have hg:=fun b=>fK hh trivial b
 have hs:=eA H blk;obtain⟨m,rfl⟩:∃m,b=a+m:=⟨b-a,by omega⟩
 have hw0:IntKind.i64.wrap (((a+m:Nat):Int)-(a:Int))=(m:Int):=aB (by omega) (by omega)
 have hw1:IntKind.i64.wrap ((m:Int)-1)=((m-1:Nat):Int):=aB (by omega) (by omega)
 have hw2:IntKind.i64.wrap (((m-1:Nat):Int).tdiv 2)=(((m-1) / 2:Nat):Int):=by rw[zAI (by omega)];exact aB (by omega) (by omega)
 have hR:Sort.heapSort lt d a (a+m)=Sort.heapPop lt a m (Sort.heapBuild lt m a ((m-1) / 2+1) d):=by rw[Sort.heapSort,show a+m-a=m by omega]
 rw[hR];repeat' first|(refine gS ?_;simp only[go_sem,hw0,hw1,hw2])|refine hU ?_|fail
 refine aH (ι:=Nat×Array dV) (fun s=>[(0,.osl 1 blk v 0 n lc),(3,.func fn fs cs),(8,.int .i64 a),(9,.int .i64 0),(10,.int .i64 m),(11,.int .i64 ((s.1:Int)-1))]) (fun s=>aA H blk (.cells v (dC s.2)))
  (fun s=>Sort.heapBuild lt m a s.1 s.2=Sort.heapBuild lt m a ((m-1) / 2+1) d∧s.2.size=n∧s.1≤m) (fun s=>s.1) ((m-1) / 2+1,d) ⟨rfl,hn.symm,by simp only;omega⟩ ?_ (iT hh trivial).symm ?_
 ·simp[go_sem]
 rintro⟨k,E⟩ ⟨h1,h2,h3⟩;simp only at h1 h2 h3 ⊢;cases k with
 |succ k=>
  rw[show((k+1:Nat):Int)-1=(k:Int) by omega]
  have hli:decide (0≤(k:Int))=true:=dT;rw[Sort.heapBuild]at h1;repeat' first|(refine gS ?_;simp only[go_sem,hli])|refine hU ?_|fail
  refine aG (aA7 hc hf h2.symm hl (show a+m≤n from hb) (by omega) _ (hg _)) (cO) ?_
  rintro r H' ⟨rfl,rfl⟩;simp only[go_sem,hs];have hw3:IntKind.i64.wrap ((k:Int)-1)=(k:Int)-1:=wI;repeat' first|(refine gS ?_;simp only[go_sem,hw3])|refine hU ?_|fail
  exact⟨(k,Sort.siftDown lt m a k E),⟨h1,by simp only;rw[lV m a _ k E (zAb _)];exact h2,by simp only;omega⟩,zAL _,rfl,rfl⟩
 |zero=>
 have hli:decide (0≤((0:Nat):Int)-1)=false:=rfl;have hli':decide ((0:Int)≤ -1)=false:=rfl;rw[Sort.heapBuild]at h1;repeat' first|(refine gS ?_;simp only[go_sem,hli,hli',hw1])|refine hU ?_|fail
 rw[←h1];refine aH (ι:=Nat×Array dV) (fun s=>[(0,.osl 1 blk v 0 n lc),(3,.func fn fs cs),(8,.int .i64 a),(9,.int .i64 0),(12,.int .i64 ((s.1:Int)-1))]) (fun s=>aA H blk (.cells v (dC s.2)))
  (fun s=>Sort.heapPop lt a s.1 s.2=Sort.heapPop lt a m E∧s.2.size=n∧s.1≤m) (fun s=>s.1) (m,E) ⟨rfl,h2,zAb _⟩ ?_ rfl ?_
 ·simp[go_sem];omega
 clear h1 h2 h3;rintro⟨k,D⟩ ⟨h1,h2,h3⟩;simp only at h1 h2 h3 ⊢;cases k with
 |succ k=>
  rw[show((k+1:Nat):Int)-1=(k:Int) by omega]
  have hli:decide (0≤(k:Int))=true:=dT;have hw4:IntKind.i64.wrap ((a:Int)+(k:Int))=((a+k:Nat):Int):=aB (by omega) (by omega)
  have gi:=aP (d:=D) (show a<D.size by omega)
  have gj:=aP (d:=D) (show a+k<D.size by omega)
  have hsw:=dH (d:=D) (show a<D.size by omega) (show a+k<D.size by omega)
  have sl:=fL D h2 (show a<n by omega)
  rw[Sort.heapPop]at h1;repeat' first|((first|refine mx [10] xR ?_|refine gS ?_);simp only[go_sem,hli,hw4,hg,hs,gi,gj,hsw,sl,zAo,aU,h2])|refine hU ?_|fail
  refine aG (aA7 (lo:=0) hc hf (show n=(Sort.swp D a (a+k)).size by rw[bP];exact h2.symm) hl (show a+k≤n by omega) (by omega) _ (hg _)) (cO) ?_
  rintro r H' ⟨rfl,rfl⟩;simp only[go_sem,hs];have hw3:IntKind.i64.wrap ((k:Int)-1)=(k:Int)-1:=wI;repeat' first|(refine gS ?_;simp only[go_sem,hw3])|refine hU ?_|fail
  exact⟨(k,Sort.siftDown lt k a 0 (Sort.swp D a (a+k))),⟨h1,by simp only;rw[lV k a _ 0 _ (zAb _),bP];exact h2,by simp only;omega⟩,zAL _,rfl,rfl⟩
 |zero=>
  have hli2:decide (0≤((0:Nat):Int)-1)=false:=rfl;rw[Sort.heapPop]at h1;repeat' first|(refine gS ?_;simp only[go_sem,hli2,hli'])|refine hU ?_|fail
  rw[←h1];exact eN (dL _ _ _) _ ⟨rfl,rfl⟩
end
end Go.Proofs.YtigedpfipifefaaGreatDoor

/- What the functions of this seat answer (14 of 38). No condition. -/
import Derived.Test.YtennnelammaapaaGreatDoorWorkAK
import Derived.Sort.AssemblyPlain
set_option linter.unusedSimpArgs false
set_option linter.unusedVariables false
set_option linter.unusedSectionVars false
set_option maxRecDepth 100000
set_option maxHeartbeats 16000000
namespace Go.Proofs.YtennnelammaapaaGreatDoor
section
abbrev gJ:={s:Txt // s.length≤1073741824}
instance:Inhabited gJ:=⟨⟨[],by simp⟩⟩
def dC(d:Array gJ):List AV:=d.toList.map fun x=>AV.str x.1
theorem bR(d:Array gJ):(dC d).length=d.size:=by simp[dC]
theorem bI{d:Array gJ}{i:Nat}(h:i<d.size):(dC d).getD i .top=.str (d[i]!).1:=by
 simp[dC,zAh,h]
theorem aBi(cs:List AV)(i:Nat)(x:AV)(h:i<cs.length):bG cs i [x]=cs.set i x:=by
 rw[zBJ,zAl h];simp[bG]
theorem aKX(d:Array gJ)(i:Nat)(x:gJ)(h:i<d.size):bG (dC d) i [.str x.1]=dC (d.setIfInBounds i x):=by
 rw[aBi _ _ _ (by rw[bR];exact h)]
 simp[dC,Array.toList_setIfInBounds,List.map_set]
theorem cT(d:Array gJ)(i j:Nat):(Sort.swp d i j).size=d.size:=by simp[Sort.swp]
theorem fH{d:Array gJ}{i j:Nat}(hi:i<d.size)(hj:j<d.size):bG (bG (dC d) i [.str (d[j]!).1]) j [.str (d[i]!).1]=dC (Sort.swp d i j):=by
 rw[aKX _ _ _ hi,aKX _ _ _ (by simpa using hj)];rfl
theorem aSo{cs:List AV}{i:Nat}{x:AV}(h:i<cs.length):(bG cs i [x]).length=cs.length:=by rw[aBi _ _ _ h,zAG]
theorem kA(d:Array gJ){i n:Nat}(hn:d.size=n)(h:i<n)(x:AV):(bG (dC d) i [x]).length=n:=by rw[aSo (by rw[bR,hn];exact h),bR,hn]
theorem fR(n v:Nat)(d:Array gJ):ClB n (.cells v (dC d)):=fun x hx=>by
 obtain⟨y,_,rfl⟩:=zAm.1 hx;exact .str _
def vX(P:Program)(f:AV)(c:Go.Proofs.YtennnelammaapaaGreatDoor.gJ→Go.Proofs.YtennnelammaapaaGreatDoor.gJ→Int):Prop:=∀a b H,ACall P f [.str a.1,.str b.1] H (fun v H'=>v=.int .i64 (c a b)∧H'=H)
theorem cG{P:Program}{g:Bool}{f:AV}{c:Go.Proofs.YtennnelammaapaaGreatDoor.gJ→Go.Proofs.YtennnelammaapaaGreatDoor.gJ→Int}{a b:Go.Proofs.YtennnelammaapaaGreatDoor.gJ}{H:AHeap}{K:AV→Prop}(h:vX P f c)(hk:K (.int .i64 (c a b))):lM P g f [.str a.1,.str b.1] H K:=⟨_,fun _=>h a b H,hk⟩
def aEl:List Pl:=[.free,.free,.free,.free,.free,.free,.pure 0,.pure 0,.free,.free,.pure 0,.pure 0,.pure 0,.eff [false,false,true,false,false],.pure 0,.eff [false,false]]
def rS:List Pl:=[.free,.free,.free,.free,.free,.free,.free,.free,.pure 0,.pure 0,.free,.free,.pure 0,.pure 0,.pure 0,.eff [false,false,true,false,false],.pure 0,.eff [false,false]]
def hQ:List Pl:=[.free,.free,.free,.free,.free,.free,.free,.free,.free,.free,.free,.free,.pure 0,.pure 0,.free,.free,.free,.free,.pure 0,.pure 0,.pure 0,.eff [false,false,true,false,false],.pure 0,.eff [false,false]]
def aEm:List Pl:=[.free,.free,.free,.free,.free,.free,.free,.free,.free,.free,.pure 0,.pure 0,.free,.free,.pure 0,.pure 0,.pure 0,.eff [false,false,true,false,false],.pure 0,.eff [false,false]]
attribute [go_sem] aEl rS hQ aEm
theorem aSp{d:Array gJ}{a b n lc blk v:Nat}(hn:n=d.size)(hl:n≤1073741824)(hb:b≤n)(hb1:1≤b)(F:AV)(H:AHeap)(hh:hget H blk=.cells v (dC d)):
  ACalls Tryz.prog 235 [.osl 1 blk v 0 n lc,.int .i64 a,.int .i64 b,F] H (fun r H'=>r=.tup []∧H'=aB H blk (.cells v (dC (Sort.reverseRange d a b)))):=by
 refine aO Tryz.func235 ?_;have hg:=fun b=>jY hh trivial b
 have hs:=gX H blk;have hw:IntKind.i64.wrap ((b:Int)-1)=((b-1:Nat):Int):=aJ (by omega) (by omega)
 repeat' first|(refine gS ?_;simp only[go_sem,hw])|refine gA ?_|(refine gD ?_ ?_<;>intro h<;>try exact aA h)|fail
 refine aI (ι:=Nat×Nat×Array gJ) (fun s=>[(0,.osl 1 blk v 0 n lc),(8,.int .i64 s.1),(9,.int .i64 s.2.1)]) (fun s=>aB H blk (.cells v (dC s.2.2)))
  (fun s=>Sort.reverseLoop s.1 s.2.1 s.2.2=Sort.reverseRange d a b∧s.2.2.size=n∧s.2.1<n) (fun s=>s.2.1-s.1) (a,b-1,d) ⟨rfl,hn.symm,by simp only;omega⟩ ?_ (nI hh trivial).symm ?_
 ·simp[go_sem]
 rintro⟨i,j,E⟩ ⟨h1,h2,h3⟩;simp only at h1 h2 h3 ⊢;by_cases hlt:i<j
 ·have hli:decide ((i:Int)<(j:Int))=true:=dT;have gi:=bI (d:=E) (show i<E.size by omega)
  have gj:=bI (d:=E) (show j<E.size by omega)
  have hsw:=fH (d:=E) (show i<E.size by omega) (show j<E.size by omega)
  have hw1:IntKind.i64.wrap ((i:Int)+1)=((i+1:Nat):Int):=aJ (by omega) (by omega)
  have hw2:IntKind.i64.wrap ((j:Int)-1)=((j-1:Nat):Int):=aJ (by omega) (by omega)
  have sl:=kA E h2 (show i<n by omega)
  repeat' first|((first|refine mx [3] aEl ?_|refine gS ?_);simp only[go_sem,hli,hg,hs,gi,gj,hsw,hw1,hw2,zAB,bR,h2,sl])|refine gA ?_|(refine gD ?_ ?_<;>intro h<;>try exact aA h)|fail
  rw[Sort.reverseLoop,zAl hlt]at h1;exact⟨(i+1,j-1,Sort.swp E i j),⟨h1,by simp only[cT];exact h2,by simp only;omega⟩,by simp only;omega,⟨rfl,rfl⟩,rfl⟩
 ·have hli:decide ((i:Int)<(j:Int))=false:=dF;repeat' first|(refine gS ?_;simp only[go_sem,hli])|refine gA ?_|(refine gD ?_ ?_<;>intro h<;>try exact aA h)|fail
  rw[Sort.reverseLoop,zAe hlt]at h1;rw[←h1];exact iX (fR _ _ _) _ ⟨rfl,rfl⟩
section
variable {lt:gJ→gJ→Bool} {c:gJ→gJ→Int} {fn:Fn} {fs cs:List AV}
theorem aKY(hc:∀x y,decide (c x y<0)=lt x y)(hf:vX Tryz.prog (.func fn fs cs) c){d:Array gJ}{a b n lc blk v:Nat}(hn:n=d.size)(hl:n≤1073741824)(hb:b≤n)(hab:a≤b)(H:AHeap)(hh:hget H blk=.cells v (dC d)):
  ACalls Tryz.prog 231 [.osl 1 blk v 0 n lc,.int .i64 a,.int .i64 b,.func fn fs cs] H (fun r H'=>r=.tup []∧H'=aB H blk (.cells v (dC (Sort.insertionSort lt d a b)))):=by
 refine aO Tryz.func231 ?_;have hg:=fun b=>jY hh trivial b
 have hs:=gX H blk;have hw:IntKind.i64.wrap ((a:Int)+1)=((a+1:Nat):Int):=aJ (by omega) (by omega)
 repeat' first|(refine gS ?_;simp only[go_sem,hw])|refine gA ?_|(refine gD ?_ ?_<;>intro h<;>try exact aA h)|fail
 refine aI (ι:=Nat×Array gJ) (fun s=>[(0,.osl 1 blk v 0 n lc),(1,.int .i64 a),(2,.int .i64 b),(3,.func fn fs cs),(8,.int .i64 s.1)]) (fun s=>aB H blk (.cells v (dC s.2)))
  (fun s=>Sort.insOuter lt a b s.1 s.2=Sort.insertionSort lt d a b∧s.2.size=n∧a<s.1) (fun s=>b-s.1) (a+1,d) ⟨rfl,hn.symm,zA8 _⟩ ?_ (nI hh trivial).symm ?_
 ·simp[go_sem]
 rintro⟨i,E⟩ ⟨h1,h2,h3⟩;simp only at h1 h2 h3 ⊢;by_cases hlt:i<b
 ·rw[Sort.insOuter,zAl hlt]at h1;have hli:decide ((i:Int)<(b:Int))=true:=dT;have hw1:IntKind.i64.wrap ((i:Int)+1)=((i+1:Nat):Int):=aJ (by omega) (by omega)
  repeat' first|(refine gS ?_;simp only[go_sem,hli])|refine gA ?_|(refine gD ?_ ?_<;>intro h<;>try exact aA h)|fail
  refine aI (ι:=Nat×Array gJ) (fun s=>[(0,.osl 1 blk v 0 n lc),(1,.int .i64 a),(2,.int .i64 b),(3,.func fn fs cs),(8,.int .i64 i),(9,.int .i64 s.1)]) (fun s=>aB H blk (.cells v (dC s.2)))
   (fun s=>Sort.insInner lt a s.1 s.2=Sort.insInner lt a i E∧s.2.size=n∧s.1≤i) (fun s=>s.1) (i,E) ⟨rfl,h2,zAf _⟩ ?_ rfl ?_
  ·simp[go_sem]
  rintro⟨j,D⟩ ⟨k1,k2,k3⟩;simp only at k1 k2 k3 ⊢;by_cases hj:a<j
  ·obtain⟨p,rfl⟩:∃p,j=p+1:=⟨j-1,by omega⟩
   have hli2:decide ((a:Int)<((p+1:Nat):Int))=true:=dT;have gi:=bI (d:=D) (show p+1<D.size by omega)
   have gj:=bI (d:=D) (show p<D.size by omega)
   have hsw:=fH (d:=D) (show p+1<D.size by omega) (show p<D.size by omega)
   have sl:=kA D k2 (show p+1<n by omega)
   have hw2:IntKind.i64.wrap (((p+1:Nat):Int)-1)=((p:Nat):Int):=aJ (by omega) (by omega)
   rw[Sort.insInner]at k1;have hap:decide (p+1>a)=true:=zAj hj;rw[hap,zAN]at k1;repeat' first|((first|refine mx [6] rS ?_|refine gS ?_);simp only[go_sem,hli2,hg,hs,gi,gj,hw2,zAB,bR,k2])|refine gA ?_|(refine gD ?_ ?_<;>intro h<;>try exact aA h)|fail
   refine cG hf ?_;simp only[go_sem,hc];cases hxy:lt D[p+1]! D[p]! with
   |true=>
    rw[hxy,zAl rfl]at k1;repeat' first|((first|refine mx [6] rS ?_|refine gS ?_);simp only[go_sem,hxy,hg,hs,gi,gj,hsw,hw2,zAB,bR,k2,sl])|refine gA ?_|(refine gD ?_ ?_<;>intro h<;>try exact aA h)|fail
    exact⟨(p,Sort.swp D (p+1) p),⟨k1,by simp only[cT];exact k2,by simp only;omega⟩,zA8 _,rfl,rfl⟩
   |false=>
    rw[hxy,zAe (by simp)]at k1
    repeat' first|((first|refine mx [6] rS ?_|refine gS ?_);simp only[go_sem,hxy,hg,hs,hw1])|refine gA ?_|(refine gD ?_ ?_<;>intro h<;>try exact aA h)|fail
    exact⟨(i+1,D),⟨by rw[←k1]at h1;exact h1,k2,by simp only;omega⟩,by simp only;omega,rfl,rfl⟩
  ·have hli2:decide ((a:Int)<(j:Int))=false:=dF;have k4:Sort.insInner lt a j D=D:=by
    cases j with
    |zero=>rfl
    |succ p=>rw[Sort.insInner,zAe (by rw[dF];simp)]
   rw[k4]at k1;repeat' first|((first|refine mx [6] rS ?_|refine gS ?_);simp only[go_sem,hli2,hg,hs,hw1])|refine gA ?_|(refine gD ?_ ?_<;>intro h<;>try exact aA h)|fail
   exact⟨(i+1,D),⟨by rw[←k1]at h1;exact h1,k2,by simp only;omega⟩,by simp only;omega,rfl,rfl⟩
 ·have hli:decide ((i:Int)<(b:Int))=false:=dF;repeat' first|(refine gS ?_;simp only[go_sem,hli])|refine gA ?_|(refine gD ?_ ?_<;>intro h<;>try exact aA h)|fail
  rw[Sort.insOuter,zAe hlt]at h1;rw[←h1];exact iX (fR _ _ _) _ ⟨rfl,rfl⟩
theorem aG5(hc:∀x y,decide (c x y<0)=lt x y)(hf:vX Tryz.prog (.func fn fs cs) c){d:Array gJ}{lo hi f n lc blk v:Nat}(hn:n=d.size)(hl:n≤1073741824)(hb:f+hi≤n)(hlo:lo≤n)(H:AHeap)(hh:hget H blk=.cells v (dC d)):
  ACalls Tryz.prog 242 [.osl 1 blk v 0 n lc,.int .i64 lo,.int .i64 hi,.int .i64 f,.func fn fs cs] H (fun r H'=>r=.tup []∧H'=aB H blk (.cells v (dC (Sort.siftDown lt hi f lo d)))):=by
 refine aO Tryz.func242 ?_;have hg:=fun b=>jY hh trivial b
 have hs:=gX H blk;repeat' first|(refine gS ?_;simp only[go_sem])|refine gA ?_|(refine gD ?_ ?_<;>intro h<;>try exact aA h)|fail
 refine aI (ι:=Nat×Array gJ) (fun s=>[(0,.osl 1 blk v 0 n lc),(2,.int .i64 hi),(3,.int .i64 f),(4,.func fn fs cs),(10,.int .i64 s.1)]) (fun s=>aB H blk (.cells v (dC s.2)))
  (fun s=>Sort.siftDown lt hi f s.1 s.2=Sort.siftDown lt hi f lo d∧s.2.size=n∧s.1≤n) (fun s=>hi-s.1) (lo,d) ⟨rfl,hn.symm,hlo⟩ ?_ (nI hh trivial).symm ?_
 ·simp[go_sem]
 rintro⟨r,E⟩ ⟨h1,h2,hr⟩;simp only at h1 h2 hr ⊢;rw[Sort.siftDown]at h1;by_cases c1:2 * r+1≥hi
 ·rw[dif_pos c1]at h1;have hw0:IntKind.i64.wrap (2 * (r:Int))=((2 * r:Nat):Int):=aJ (by omega) (by omega)
  have hw1:IntKind.i64.wrap (((2 * r:Nat):Int)+1)=((2 * r+1:Nat):Int):=aJ (by omega) (by omega)
  have hli:decide ((hi:Int)≤((2 * r+1:Nat):Int))=true:=dT;repeat' first|(refine gS ?_;simp only[go_sem,hw0,hw1,hli])|refine gA ?_|(refine gD ?_ ?_<;>intro h<;>try exact aA h)|fail
  rw[←h1];exact iX (fR _ _ _) _ ⟨rfl,rfl⟩
 have hw0:IntKind.i64.wrap (2 * (r:Int))=((2 * r:Nat):Int):=aJ (by omega) (by omega)
 have hw1:IntKind.i64.wrap (((2 * r:Nat):Int)+1)=((2 * r+1:Nat):Int):=aJ (by omega) (by omega)
 have hw2:IntKind.i64.wrap (((2 * r+1:Nat):Int)+1)=((2 * r+2:Nat):Int):=aJ (by omega) (by omega)
 have hw3:IntKind.i64.wrap ((f:Int)+((2 * r+1:Nat):Int))=((f+(2 * r+1):Nat):Int):=aJ (by omega) (by omega)
 have hw4:IntKind.i64.wrap (((f+(2 * r+1):Nat):Int)+1)=((f+(2 * r+1)+1:Nat):Int):=aJ (by omega) (by omega)
 have hw5:IntKind.i64.wrap ((f:Int)+(r:Int))=((f+r:Nat):Int):=aJ (by omega) (by omega)
 have hw6:IntKind.i64.wrap ((f:Int)+((2 * r+2:Nat):Int))=((f+(2 * r+2):Nat):Int):=aJ (by omega) (by omega)
 have hli:decide ((hi:Int)≤((2 * r+1:Nat):Int))=false:=dF;have gr:=bI (d:=E) (show f+r<E.size by omega)
 have gc:=bI (d:=E) (show f+(2 * r+1)<E.size by omega)
 rw[dif_neg c1]at h1;by_cases c2:2 * r+1+1<hi
 ·have hli2:decide (((2 * r+2:Nat):Int)<(hi:Int))=true:=dT;rw[show f+(2 * r+1)+1=f+(2 * r+2) by omega]at h1
  have gd2:=bI (d:=E) (show f+(2 * r+2)<E.size by omega)
  rw[zAj c2,zAN]at h1;repeat' first|((first|refine mx [6] hQ ?_|refine gS ?_);simp only[go_sem,hg,hs,hw0,hw1,hw2,hw3,hw4,hw5,hw6,hli,gr,gc,zAB,bR,h2,hli2,gd2])|refine gA ?_|(refine gD ?_ ?_<;>intro h<;>try exact aA h)|fail
  refine cG hf ?_;simp only[go_sem,hc];cases hxy:lt E[f+(2 * r+1)]! E[f+(2 * r+2)]! with
  |true=>
   rw[hxy,zAl rfl,dif_pos (show 2 * r+2<hi by omega)]at h1
   repeat' first|((first|refine mx [6] hQ ?_|refine gS ?_);simp only[go_sem,hxy,hg,hs,hw0,hw1,hw2,hw3,hw4,hw5,hw6,hli,gr,gc,zAB,bR,h2,hli2,gd2])|refine gA ?_|(refine gD ?_ ?_<;>intro h<;>try exact aA h)|fail
   refine cG hf ?_;simp only[go_sem,hc];cases hyz:lt E[f+r]! E[f+(2 * r+2)]! with
   |true=>
    rw[hyz]at h1;have hsw:=fH (d:=E) (show f+r<E.size by omega) (show f+(2 * r+2)<E.size by omega)
    have sl:=kA E h2 (show f+r<n by omega)
    repeat' first|((first|refine mx [6] hQ ?_|refine gS ?_);simp only[go_sem,hyz,hg,hs,hw0,hw1,hw2,hw3,hw4,hw5,hw6,hli,gr,gc,zAB,bR,h2,gd2,hsw,sl])|refine gA ?_|(refine gD ?_ ?_<;>intro h<;>try exact aA h)|fail
    exact⟨(2 * r+2,Sort.swp E (f+r) (f+(2 * r+2))),⟨h1,by simp only[cT];exact h2,by simp only;omega⟩,by simp only;omega,rfl,rfl⟩
   |false=>
    rw[hyz]at h1;repeat' first|((first|refine mx [6] hQ ?_|refine gS ?_);simp only[go_sem,hyz,hg,hs,hw0,hw1,hw2,hw3,hw4,hw5,hw6,hli,gr,gc,zAB,bR,h2,gd2])|refine gA ?_|(refine gD ?_ ?_<;>intro h<;>try exact aA h)|fail
    rw[←(show E=Sort.siftDown lt hi f lo d from h1)]
    exact iX (fR _ _ _) _ ⟨rfl,rfl⟩
  |false=>
   rw[hxy,zAe (by simp)]at h1
   repeat' first|((first|refine mx [6] hQ ?_|refine gS ?_);simp only[go_sem,hxy,hg,hs,hw0,hw1,hw2,hw3,hw4,hw5,hw6,hli,gr,gc,zAB,bR,h2,hli2])|refine gA ?_|(refine gD ?_ ?_<;>intro h<;>try exact aA h)|fail
   refine cG hf ?_;simp only[go_sem,hc];cases hyz:lt E[f+r]! E[f+(2 * r+1)]! with
   |true=>
    rw[hyz]at h1;have hsw:=fH (d:=E) (show f+r<E.size by omega) (show f+(2 * r+1)<E.size by omega)
    have sl:=kA E h2 (show f+r<n by omega)
    repeat' first|((first|refine mx [6] hQ ?_|refine gS ?_);simp only[go_sem,hyz,hg,hs,hw0,hw1,hw2,hw3,hw4,hw5,hw6,hli,gr,gc,zAB,bR,h2,hsw,sl])|refine gA ?_|(refine gD ?_ ?_<;>intro h<;>try exact aA h)|fail
    exact⟨(2 * r+1,Sort.swp E (f+r) (f+(2 * r+1))),⟨h1,by simp only[cT];exact h2,by simp only;omega⟩,by simp only;omega,rfl,rfl⟩
   |false=>
    rw[hyz]at h1;repeat' first|((first|refine mx [6] hQ ?_|refine gS ?_);simp only[go_sem,hyz,hg,hs,hw0,hw1,hw2,hw3,hw4,hw5,hw6,hli,gr,gc,zAB,bR,h2])|refine gA ?_|(refine gD ?_ ?_<;>intro h<;>try exact aA h)|fail
    rw[←(show E=Sort.siftDown lt hi f lo d from h1)]
    exact iX (fR _ _ _) _ ⟨rfl,rfl⟩
 ·have hli2:decide (((2 * r+2:Nat):Int)<(hi:Int))=false:=dF;rw[zAg c2,zB5,zAe (by simp)]at h1
  repeat' first|((first|refine mx [6] hQ ?_|refine gS ?_);simp only[go_sem,hg,hs,hw0,hw1,hw2,hw3,hw4,hw5,hw6,hli,gr,gc,zAB,bR,h2,hli2])|refine gA ?_|(refine gD ?_ ?_<;>intro h<;>try exact aA h)|fail
  refine cG hf ?_;simp only[go_sem,hc];cases hyz:lt E[f+r]! E[f+(2 * r+1)]! with
  |true=>
   rw[hyz]at h1;have hsw:=fH (d:=E) (show f+r<E.size by omega) (show f+(2 * r+1)<E.size by omega)
   have sl:=kA E h2 (show f+r<n by omega)
   repeat' first|((first|refine mx [6] hQ ?_|refine gS ?_);simp only[go_sem,hyz,hg,hs,hw0,hw1,hw2,hw3,hw4,hw5,hw6,hli,gr,gc,zAB,bR,h2,hsw,sl])|refine gA ?_|(refine gD ?_ ?_<;>intro h<;>try exact aA h)|fail
   exact⟨(2 * r+1,Sort.swp E (f+r) (f+(2 * r+1))),⟨h1,by simp only[cT];exact h2,by simp only;omega⟩,by simp only;omega,rfl,rfl⟩
  |false=>
   rw[hyz]at h1;repeat' first|((first|refine mx [6] hQ ?_|refine gS ?_);simp only[go_sem,hyz,hg,hs,hw0,hw1,hw2,hw3,hw4,hw5,hw6,hli,gr,gc,zAB,bR,h2])|refine gA ?_|(refine gD ?_ ?_<;>intro h<;>try exact aA h)|fail
   rw[←(show E=Sort.siftDown lt hi f lo d from h1)]
   exact iX (fR _ _ _) _ ⟨rfl,rfl⟩
theorem tW(hi f:Nat):∀(m r:Nat) (d:Array gJ),hi-r≤m→(Sort.siftDown lt hi f r d).size=d.size:=by
 intro m;induction m with
 |zero=>intro r d h;rw[Sort.siftDown,dif_pos (by omega)]
 |succ m ih=>
  intro r d h;rw[Sort.siftDown];repeat' split
  all_goals first|rfl|(rw[ih _ _ (by omega),cT])
theorem aOw(hc:∀x y,decide (c x y<0)=lt x y)(hf:vX Tryz.prog (.func fn fs cs) c){d:Array gJ}{a b n lc blk v:Nat}(hn:n=d.size)(hl:n≤1073741824)(hb:b≤n)(hab:a<b)(H:AHeap)(hh:hget H blk=.cells v (dC d)):
  ACalls Tryz.prog 232 [.osl 1 blk v 0 n lc,.int .i64 a,.int .i64 b,.func fn fs cs] H (fun r H'=>r=.tup []∧H'=aB H blk (.cells v (dC (Sort.heapSort lt d a b)))):=by
 refine aO Tryz.func232 ?_;have hg:=fun b=>jY hh trivial b
 have hs:=gX H blk;obtain⟨m,rfl⟩:∃m,b=a+m:=⟨b-a,by omega⟩
 have hw0:IntKind.i64.wrap (((a+m:Nat):Int)-(a:Int))=(m:Int):=aJ (by omega) (by omega)
 have hw1:IntKind.i64.wrap ((m:Int)-1)=((m-1:Nat):Int):=aJ (by omega) (by omega)
 have hw2:IntKind.i64.wrap (((m-1:Nat):Int).tdiv 2)=(((m-1) / 2:Nat):Int):=by rw[zBk (by omega)];exact aJ (by omega) (by omega)
 have hR:Sort.heapSort lt d a (a+m)=Sort.heapPop lt a m (Sort.heapBuild lt m a ((m-1) / 2+1) d):=by rw[Sort.heapSort,show a+m-a=m by omega]
 rw[hR];repeat' first|(refine gS ?_;simp only[go_sem,hw0,hw1,hw2])|refine gA ?_|(refine gD ?_ ?_<;>intro h<;>try exact aA h)|fail
 refine aI (ι:=Nat×Array gJ) (fun s=>[(0,.osl 1 blk v 0 n lc),(3,.func fn fs cs),(8,.int .i64 a),(9,.int .i64 0),(10,.int .i64 m),(11,.int .i64 ((s.1:Int)-1))]) (fun s=>aB H blk (.cells v (dC s.2)))
  (fun s=>Sort.heapBuild lt m a s.1 s.2=Sort.heapBuild lt m a ((m-1) / 2+1) d∧s.2.size=n∧s.1≤m) (fun s=>s.1) ((m-1) / 2+1,d) ⟨rfl,hn.symm,by simp only;omega⟩ ?_ (nI hh trivial).symm ?_
 ·simp[go_sem]
 rintro⟨k,E⟩ ⟨h1,h2,h3⟩;simp only at h1 h2 h3 ⊢;cases k with
 |succ k=>
  rw[show((k+1:Nat):Int)-1=(k:Int) by omega]
  have hli:decide (0≤(k:Int))=true:=dT;rw[Sort.heapBuild]at h1;repeat' first|(refine gS ?_;simp only[go_sem,hli])|refine gA ?_|(refine gD ?_ ?_<;>intro h<;>try exact aA h)|fail
  refine aR (aG5 hc hf h2.symm hl (show a+m≤n from hb) (by omega) _ (hg _)) (cO) ?_
  rintro r H' ⟨rfl,rfl⟩;simp only[go_sem,hs];have hw3:IntKind.i64.wrap ((k:Int)-1)=(k:Int)-1:=wI;repeat' first|(refine gS ?_;simp only[go_sem,hw3])|refine gA ?_|(refine gD ?_ ?_<;>intro h<;>try exact aA h)|fail
  exact⟨(k,Sort.siftDown lt m a k E),⟨h1,by simp only;rw[tW m a _ k E (zAf _)];exact h2,by simp only;omega⟩,zA8 _,rfl,rfl⟩
 |zero=>
 have hli:decide (0≤((0:Nat):Int)-1)=false:=rfl;have hli':decide ((0:Int)≤ -1)=false:=rfl;rw[Sort.heapBuild]at h1;repeat' first|(refine gS ?_;simp only[go_sem,hli,hli',hw1])|refine gA ?_|(refine gD ?_ ?_<;>intro h<;>try exact aA h)|fail
 rw[←h1];refine aI (ι:=Nat×Array gJ) (fun s=>[(0,.osl 1 blk v 0 n lc),(3,.func fn fs cs),(8,.int .i64 a),(9,.int .i64 0),(12,.int .i64 ((s.1:Int)-1))]) (fun s=>aB H blk (.cells v (dC s.2)))
  (fun s=>Sort.heapPop lt a s.1 s.2=Sort.heapPop lt a m E∧s.2.size=n∧s.1≤m) (fun s=>s.1) (m,E) ⟨rfl,h2,zAf _⟩ ?_ rfl ?_
 ·simp[go_sem];omega
 clear h1 h2 h3;rintro⟨k,D⟩ ⟨h1,h2,h3⟩;simp only at h1 h2 h3 ⊢;cases k with
 |succ k=>
  rw[show((k+1:Nat):Int)-1=(k:Int) by omega]
  have hli:decide (0≤(k:Int))=true:=dT;have hw4:IntKind.i64.wrap ((a:Int)+(k:Int))=((a+k:Nat):Int):=aJ (by omega) (by omega)
  have gi:=bI (d:=D) (show a<D.size by omega)
  have gj:=bI (d:=D) (show a+k<D.size by omega)
  have hsw:=fH (d:=D) (show a<D.size by omega) (show a+k<D.size by omega)
  have sl:=kA D h2 (show a<n by omega)
  rw[Sort.heapPop]at h1;repeat' first|((first|refine mx [10] aEm ?_|refine gS ?_);simp only[go_sem,hli,hw4,hg,hs,gi,gj,hsw,sl,zAB,bR,h2])|refine gA ?_|(refine gD ?_ ?_<;>intro h<;>try exact aA h)|fail
  refine aR (aG5 (lo:=0) hc hf (show n=(Sort.swp D a (a+k)).size by rw[cT];exact h2.symm) hl (show a+k≤n by omega) (by omega) _ (hg _)) (cO) ?_
  rintro r H' ⟨rfl,rfl⟩;simp only[go_sem,hs];have hw3:IntKind.i64.wrap ((k:Int)-1)=(k:Int)-1:=wI;repeat' first|(refine gS ?_;simp only[go_sem,hw3])|refine gA ?_|(refine gD ?_ ?_<;>intro h<;>try exact aA h)|fail
  exact⟨(k,Sort.siftDown lt k a 0 (Sort.swp D a (a+k))),⟨h1,by simp only;rw[tW k a _ 0 _ (zAf _),cT];exact h2,by simp only;omega⟩,zA8 _,rfl,rfl⟩
 |zero=>
  have hli2:decide (0≤((0:Nat):Int)-1)=false:=rfl;rw[Sort.heapPop]at h1;repeat' first|(refine gS ?_;simp only[go_sem,hli2,hli'])|refine gA ?_|(refine gD ?_ ?_<;>intro h<;>try exact aA h)|fail
  rw[←h1];exact iX (fR _ _ _) _ ⟨rfl,rfl⟩
end
end
section
theorem aG6{n:Int}{d:Nat}(h0:0≤n)(h1:n≤72057594037927935)(hd:d<128):nA .or .i64 (n * 128) (d:Int)=n * 128+d:=by
 obtain⟨m,rfl⟩:∃m:Nat,n=m:=⟨n.toNat,by omega⟩
 have e1:BitVec.ofInt 64 ((m:Int) * 128)=BitVec.ofNat 64 (m * 128):=by rw[show((m:Int) * 128)=((m * 128:Nat):Int) by omega];exact BitVec.ofInt_natCast ..
 have e2:BitVec.ofInt 64 (d:Int)=BitVec.ofNat 64 d:=BitVec.ofInt_natCast ..;show IntKind.i64.wrap ((BitVec.ofInt 64 ((m:Int) * 128)|||BitVec.ofInt 64 (d:Int)).toNat:Int)=_
 rw[e1,e2,BitVec.toNat_or,BitVec.toNat_ofNat,BitVec.toNat_ofNat,Nat.mod_eq_of_lt (by omega),Nat.mod_eq_of_lt (by omega)]
 have e3:=Nat.shiftLeft_add_eq_or_of_lt (b:=d) (i:=7) (by omega) m
 rw[Nat.shiftLeft_eq]at e3;rw[show m * 128=m * 2 ^ 7 by omega,←e3,wI]
 omega
theorem aKZ{d:Nat}(h1:128≤d)(hd:d<256):nA .and .i64 (d:Int) 127=((d-128:Nat):Int):=by
 have e2:BitVec.ofInt 64 (d:Int)=BitVec.ofNat 64 d:=BitVec.ofInt_natCast ..;have e1:BitVec.ofInt 64 (127:Int)=BitVec.ofNat 64 127:=rfl;show IntKind.i64.wrap ((BitVec.ofInt 64 (d:Int)&&&BitVec.ofInt 64 (127:Int)).toNat:Int)=_;rw[e1,e2,BitVec.toNat_and,BitVec.toNat_ofNat,BitVec.toNat_ofNat,Nat.mod_eq_of_lt (by omega),Nat.mod_eq_of_lt (by omega)]
 have e3:=Nat.and_two_pow_sub_one_eq_mod d 7;rw[show 127=2 ^ 7-1 by omega,e3,wI]
 omega
theorem aIv:∀(b:Txt) (n:Int) (f:Bool) (m:Int) (r:Txt),rM n f b=some (m,r)→r.length<b.length:=by
 intro b;induction b with
 |nil=>intro n f m r h;cases h
 |cons x b ih=>
  intro n f m r h;rw[rM]at h;split at h
  ·cases h
  ·split at h
   ·cases h;simp
   ·have:=ih _ _ _ _ h;rw[zAc];omega
theorem fI{b:Txt}{m:Int}{r:Txt}(h:cZ b=some (m,r)):r.length<b.length:=aIv _ _ _ _ _ h
theorem aIw:∀(b:Txt) (n:Int) (f:Bool) (m:Int) (r:Txt),0≤n→rM n f b=some (m,r)→0≤m∧m≤9223372036854775807:=by
 intro b;induction b with
 |nil=>intro n f m r _ h;cases h
 |cons x b ih=>
  intro n f m r h0 h;have hx:=x.toNat_lt;rw[rM]at h;split at h
  ·cases h
  ·rename_i hc;simp only[zB9,zAF,not_or]at hc;split at h
   ·cases h;omega
   ·exact ih _ _ _ _ (by omega) h
def aBj(b:Txt):AV:=match cZ b with
 |none=>.tup [.int .i64 0,.str [],.int .i64 40]
 |some (n,r)=>.tup [.int .i64 n,.str r,.int .i64 0]
def aEn(b:Txt):AV:=match rN b with
 |none=>.tup [.str [],.str [],.int .i64 40]
 |some (t,r)=>.tup [.str t,.str r,.int .i64 0]
theorem aC6(b:Txt)(hb:b.length≤1073741824)(H:AHeap):bH Tryz.prog 221 [.str b] H (aBj b):=by
 refine fO Tryz.func221 ?_;repeat' first|(refine gS ?_;simp only[go_sem])|refine gA ?_|(refine gD ?_ ?_<;>intro h<;>try exact aA h)|fail
 refine gB (ι:=Int×Nat) (fun s=>[(0,.str b),(2,.int .i64 0),(3,.str []),(4,.int .i64 0),(5,.int .i64 s.1),(6,.int .i64 s.2)]) (fun _=>H) (fun s=>s.2≤b.length∧(s.2=0∧cZ b=none∨0<s.2∧cZ b=some (s.1,b.drop s.2))) ?_ fun⟨n,k⟩ hk=>?_
 ·refine aI (ι:=Nat×Int) (fun s=>[(0,.str b),(2,.int .i64 0),(3,.str []),(4,.int .i64 0),(5,.int .i64 s.2),(6,.int .i64 0),(10,.int .i64 b.length),(11,.int .i64 s.1)]) (fun _=>H)
   (fun s=>s.1≤b.length∧0≤s.2∧cZ b=rM s.2 (decide (s.1=0)) (b.drop s.1)) (fun s=>b.length-s.1) (0,0) ⟨zAo _,zBY _,rfl⟩ ?_ rfl ?_
  ·simp[go_sem]
  rintro⟨i,n⟩ ⟨hi,hn,ht⟩;simp only at hi hn ht ⊢;by_cases hin:i<b.length
  ·have hdr:=zAi hin;rw[hdr,rM]at ht;have hx:=b[i].toNat_lt;have hgd:b.getD i 0=b[i]:=by simp[hin]
   obtain⟨x,hxe⟩:∃x,x=b[i].toNat:=⟨_,rfl⟩;rw[←hxe]at ht hx;have hli:decide ((i:Int)<(b.length:Int))=true:=dT;have hwx:IntKind.i64.wrap ((b[i].toNat:Nat):Int)=(x:Int):=by rw[←hxe];exact wI
   have hii:IntKind.i64.wrap ((i:Int)+1)=((i+1:Nat):Int):=aS hin (by omega)
   obtain⟨D1,hD1⟩:∃D,decide (i=0)=D:=⟨_,rfl⟩;obtain⟨D2,hD2⟩:∃D,decide ((x:Int)=128)=D:=⟨_,rfl⟩;obtain⟨D3,hD3⟩:∃D,decide (72057594037927935<n)=D:=⟨_,rfl⟩;have hd1:decide ((i:Int)=0)=D1:=by rw[←hD1];exact zCv.2 (by omega)
   rw[hD1,hD2,hD3]at ht;have stop:cZ b=none→∃y:Int×Nat,(y.2≤b.length∧(y.2=0∧cZ b=none∨0<y.2∧cZ b=some (y.1,b.drop y.2)))∧AV.int .i64 n=AV.int .i64 y.1∧AV.int .i64 0=AV.int .i64 y.2:=fun h=>⟨(n,0),⟨zAo _,.inl ⟨rfl,h⟩⟩,rfl,rfl⟩
   cases D3 with
   |true=>
    have hs:cZ b=none:=by rw[ht];cases D1<;>cases D2<;>rfl
    cases D1<;>cases D2;all_goals
     repeat' first|(refine gS ?_;simp only[go_sem,hgd,hin,hli,hwx,hd1,hD2,hD3])|refine gA ?_|(refine gD ?_ ?_<;>intro h<;>try exact aA h)|fail
     exact stop hs
   |false=>
    have hn7:n≤72057594037927935:=by have:=of_decide_eq_false hD3;omega
    have hsh:IntKind.i64.wrap (n * 2 ^ min 7 64)=n * 128:=by rw[show(2:Int) ^ min 7 64=128 by decide,wI]
    by_cases hst:D1=true∧D2=true
    ·obtain⟨rfl,rfl⟩:=hst;repeat' first|(refine gS ?_;simp only[go_sem,hgd,hin,hli,hwx,hd1,hD2,hD3])|refine gA ?_|(refine gD ?_ ?_<;>intro h<;>try exact aA h)|fail
     exact stop ht
    ·have ht2:cZ b=if(x:Int)<128 then some (n * 128+x,List.drop (i+1) b)else rM (n * 128+(x-128)) false (List.drop (i+1) b):=by
      rw[ht];cases D1<;>cases D2<;>first|rfl|exact absurd ⟨rfl,rfl⟩ hst
     by_cases h128:(x:Int)<128
     ·have hD4:decide ((x:Int)<128)=true:=zAj h128;have hor:=aG6 hn hn7 (d:=x) (by omega)
      rw[zAl h128]at ht2;have fin:∃y:Int×Nat,(y.2≤b.length∧(y.2=0∧cZ b=none∨0<y.2∧cZ b=some (y.1,b.drop y.2)))∧AV.int .i64 (n * 128+x)=AV.int .i64 y.1∧AV.int .i64 ((i+1:Nat):Int)=AV.int .i64 y.2:=⟨(n * 128+x,i+1),⟨hin,.inr ⟨Nat.succ_pos _,ht2⟩⟩,rfl,rfl⟩;cases D1<;>cases D2;all_goals first
       |exact absurd ⟨rfl,rfl⟩ hst
       |((repeat' first|(refine gS ?_;simp only[go_sem,hgd,hin,hli,hwx,hd1,hD2,hD3,hD4,hsh,hor,hii])|refine gA ?_|(refine gD ?_ ?_<;>intro h<;>try exact aA h)|fail);exact fin)
     ·have hD4:decide ((x:Int)<128)=false:=zAg h128;rw[zAe h128]at ht2;have han:=aKZ (d:=x) (by omega) (by omega)
      have hor:=aG6 hn hn7 (d:=x-128) (by omega)
      have fin:∃y:Nat×Int,(y.1≤b.length∧0≤y.2∧cZ b=rM y.2 (decide (y.1=0)) (b.drop y.1))∧b.length-y.1<b.length-i∧AV.int .i64 (n * 128+((x-128:Nat):Int))=AV.int .i64 y.2∧AV.int .i64 ((i+1:Nat):Int)=AV.int .i64 y.1:=by
       refine⟨(i+1,n * 128+((x-128:Nat):Int)),⟨hin,by simp only;omega,?_⟩,by simp only;omega,rfl,rfl⟩
       rw[ht2];simp only[Nat.succ_ne_zero,zCl];rw[show((x-128:Nat):Int)=(x:Int)-128 by omega]
      cases D1<;>cases D2;all_goals first
       |exact absurd ⟨rfl,rfl⟩ hst
       |((repeat' first|(refine gS ?_;simp only[go_sem,hgd,hin,hli,hwx,hd1,hD2,hD3,hD4,hsh,han,hor,hii])|refine gA ?_|(refine gD ?_ ?_<;>intro h<;>try exact aA h)|fail);exact fin)
  ·have hie:i=b.length:=by omega
   subst hie;rw[zBp,rM]at ht;repeat' first|(refine gS ?_;simp only[go_sem,hin])|refine gA ?_|(refine gD ?_ ?_<;>intro h<;>try exact aA h)|fail
   exact⟨(n,0),⟨zAo _,.inl ⟨rfl,ht⟩⟩,⟨rfl,rfl⟩⟩
 simp only at hk ⊢;obtain⟨hkl,⟨rfl,ht⟩|⟨h0,ht⟩⟩:=hk
 ·unfold aBj;rw[ht];repeat' first|(refine gS ?_;simp only[go_sem])|refine gA ?_|(refine gD ?_ ?_<;>intro h<;>try exact aA h)|fail
  exact cL (.refl _)
 ·unfold aBj;rw[ht];have hd:decide ((k:Int)=0)=false:=dF;have hkb:(k≤b.length)=True:=zAC hkl;repeat' first|(refine gS ?_;simp only[go_sem,hd,hkb])|refine gA ?_|(refine gD ?_ ?_<;>intro h<;>try exact aA h)|fail
  exact cL (.refl _)
theorem aC7(b:Txt)(hb:b.length≤1073741824)(H:AHeap):bH Tryz.prog 207 [.str b] H (aEn b):=by
 refine fO Tryz.func207 ?_;have ht:=aC6 b hb;unfold aBj at ht;unfold aEn rN;cases hv:cZ b with
 |none=>
  simp only[hv]at ht;repeat' first|(refine gS ?_;simp only[go_sem])|refine gA ?_|(refine gD ?_ ?_<;>intro h<;>try exact aA h)|fail
  exact cL (.refl _)
 |some p=>
  obtain⟨n,r⟩:=p;simp only[hv]at ht;have hn:=aIw _ _ _ _ _ (zBY 0) hv;by_cases hlt:(r.length:Int)<n
  ·have hd:decide ((r.length:Int)<n)=true:=zAj hlt;simp only[zAl hlt];repeat' first|(refine gS ?_;simp only[go_sem,hd])|refine gA ?_|(refine gD ?_ ?_<;>intro h<;>try exact aA h)|fail
   exact cL (.refl _)
  ·have hd:decide ((r.length:Int)<n)=false:=zAg hlt;simp only[zAe hlt];obtain⟨k,rfl⟩:∃k:Nat,n=k:=⟨n.toNat,by omega⟩
   have hkr:(k≤r.length)=True:=zAC (by omega)
   repeat' first|(refine gS ?_;simp only[go_sem,hd,hkr])|refine gA ?_|(refine gD ?_ ?_<;>intro h<;>try exact aA h)|fail
   exact cL (.refl _)
end
section
def kB(c:Cal):Bool:=decide (1000<(c.path.length:Int))||decide (1000<(c.to.length:Int))||decide (5000<(c.data.length:Int))
def qG(l:List Cal)(n:Int):Bool:=l.all (fun x=> !kB x)&&decide ((l.length:Int)≤n)
theorem aQy(a b:Evt):(decide (a.kind=b.kind)&&decide (a.path=b.path))=decide (a=b):=by
 obtain⟨_,_⟩:=a;obtain⟨_,_⟩:=b;rw[zBo];simp
theorem aOx(b1 b2:Bool)(l m:List Evt)(H:AHeap):bH Tryz.prog 41 [.sl b1 (l.map fF),.sl b2 (m.map fF)] H (.bool (decide (l=m))):=by
 refine fP fun hok _=>?_
 have hl:=jQ hok;rw[zAn]at hl;refine fO Tryz.func41 ?_;repeat' first|(refine gS ?_;simp only[go_sem])|refine gA ?_|(refine gD ?_ ?_<;>intro h<;>try exact aA h)|fail
 ·exact cL (.of (by rw[zAg (fun e=>by subst e;simp at h)]))
 ·have hlen:l.length=m.length:=by simp at h;omega
  refine aI (ι:=Nat) (fun i=>[(0,.sl b1 (l.map fF)),(1,.sl b2 (m.map fF)),(5,.int .i64 i)]) (fun _=>H) (fun i=>i≤l.length∧l.take i=m.take i) (fun i=>l.length-i) 0 ⟨zAo _,rfl⟩ ?_ rfl ?_
  ·simp[go_sem]
  ·rintro i ⟨hi,he⟩;by_cases hlt:i<l.length
   ·have hp:=aN fF hlt;have hq:=aN fF (show i<m.length by omega)
    repeat' first|(refine gS ?_;simp only[go_sem,hp,hq,fF])|refine gA ?_|(refine gD ?_ ?_<;>intro h<;>try exact aA h)|fail
    ·rw[aQy]at h;have hne:l[i]≠m[i]:=by simpa using h
     exact cL (.of (by rw[zAg (fun e=>hne (by subst e;rfl))]))
    ·rw[aQy]at h;have heq:l[i]=m[i]:=by simpa using h
     exact⟨i+1,⟨hlt,by rw[zAk hlt,zAk (by omega),he,heq]⟩,by omega,by rw[wI];rfl⟩
   ·have hi':i=l.length:=by omega
    subst hi';repeat' first|(refine gS ?_;simp only[go_sem])|refine gA ?_|(refine gD ?_ ?_<;>intro h<;>try exact aA h)|fail
    exact cL (.of (by rw[zAj (by rw[zAD,hlen,zAD]at he;exact he)]))
theorem aOy(b1 b2:Bool)(l m:List Txt)(H:AHeap):bH Tryz.prog 40 [.sl b1 (l.map aFt),.sl b2 (m.map aFt)] H (.bool (decide (l=m))):=by
 refine fP fun hok _=>?_
 have hl:=jQ hok;rw[zAn]at hl;refine fO Tryz.func40 ?_;repeat' first|(refine gS ?_;simp only[go_sem])|refine gA ?_|(refine gD ?_ ?_<;>intro h<;>try exact aA h)|fail
 ·exact cL (.of (by rw[zAg (fun e=>by subst e;simp at h)]))
 ·have hlen:l.length=m.length:=by simp at h;omega
  refine aI (ι:=Nat) (fun i=>[(0,.sl b1 (l.map aFt)),(1,.sl b2 (m.map aFt)),(5,.int .i64 i)]) (fun _=>H) (fun i=>i≤l.length∧l.take i=m.take i) (fun i=>l.length-i) 0 ⟨zAo _,rfl⟩ ?_ rfl ?_
  ·simp[go_sem]
  ·rintro i ⟨hi,he⟩;by_cases hlt:i<l.length
   ·have hp:=aN aFt hlt;have hq:=aN aFt (show i<m.length by omega)
    repeat' first|(refine gS ?_;simp only[go_sem,hp,hq,aFt])|refine gA ?_|(refine gD ?_ ?_<;>intro h<;>try exact aA h)|fail
    ·skip
     have hne:l[i]≠m[i]:=by simpa using h
     exact cL (.of (by rw[zAg (fun e=>hne (by subst e;rfl))]))
    ·skip
     have heq:l[i]=m[i]:=by simpa using h
     exact⟨i+1,⟨hlt,by rw[zAk hlt,zAk (by omega),he,heq]⟩,by omega,by rw[wI];rfl⟩
   ·have hi':i=l.length:=by omega
    subst hi';repeat' first|(refine gS ?_;simp only[go_sem])|refine gA ?_|(refine gD ?_ ?_<;>intro h<;>try exact aA h)|fail
    exact cL (.of (by rw[zAj (by rw[zAD,hlen,zAD]at he;exact he)]))
theorem aG7(b1:Bool)(l:List Cal)(n:Int)(H:AHeap):bH Tryz.prog 16 [.sl b1 (l.map dS),.int .i64 n] H (.bool (qG l n)):=by
 refine fP fun hok _=>?_
 have hl:=jQ hok;rw[zAn]at hl;refine fO Tryz.func16 ?_;refine hG ?_;refine aI (ι:=Nat) (fun i=>[(0,.sl b1 (l.map dS)),(1,.int .i64 n),(5,.int .i64 i)]) (fun _=>H) (fun i=>i≤l.length∧∀x∈l.take i,kB x=false) (fun i=>l.length-i) 0 ⟨zAo _,by simp⟩ ?_ rfl ?_
 ·simp[go_sem]
 ·rintro i ⟨hi,he⟩;by_cases hlt:i<l.length
  ·have hp:=aN dS hlt;repeat' first|(refine gS ?_;simp only[go_sem,hp,dS])|refine gA ?_|(refine gD ?_ ?_<;>intro h<;>try exact aA h)|fail
   ·exact cL (.of (by
     have:qG l n=false:=by
      unfold qG;rw[Bool.and_eq_false_iff];left;rw[zB2];intro q;have q2:=zAJ.1 q l[i] (zAK _);have h':kB l[i]=true:=h;rw[h']at q2;cases q2
     rw[this]))
   ·refine⟨i+1,⟨hlt,fun x hx=>?_⟩,by omega,by rw[wI];rfl⟩
    rw[zAk hlt,zAy]at hx;rcases hx with hx|hx
    ·exact he x hx
    ·simp at hx;subst hx;exact h
  ·have hi':i=l.length:=by omega
   subst hi';repeat' first|(refine gS ?_;simp only[go_sem])|refine gA ?_|(refine gD ?_ ?_<;>intro h<;>try exact aA h)|fail
   refine cL (.of ?_);rw[zAD]at he;have:l.all (fun x=> !kB x)=true:=zAJ.2 fun x hx=>by rw[he x hx];rfl
   rw[qG,this,zAN]
theorem aOz(b1 b2:Bool)(l m:List Txt)(H:AHeap):bH Tryz.prog 40 [.sl b1 (l.map AV.str),.sl b2 (m.map AV.str)] H (.bool (decide (l=m))):=aOy b1 b2 l m H
def anA(f2 f3:Bool)(a:Ans):AV:=.agg [.int .i64 a.err,.str a.data,.sl f2 (a.names.map AV.str),.int .i64 a.n,.sl f3 (a.events.map fF)]
@[go_sem] theorem aXO(f2 f3:Bool)(x:Ans):Pur (anA f2 f3 x)=True:=by simp only[anA,go_sem]
theorem aSq(a b:Ans):(decide (a.names=b.names)&&decide (a.events=b.events)&&decide (a.err=b.err)&&decide (a.data=b.data)&&decide (a.n=b.n))=decide (a=b):=by
 obtain⟨_,_,_,_,_⟩:=a;obtain⟨_,_,_,_,_⟩:=b;rw[zBo];simp;constructor<;>(intro h;simp_all)
theorem aG9(f2 f3 g2 g3:Bool)(a b:Ans)(H:AHeap):bH Tryz.prog 21 [anA f2 f3 a,anA g2 g3 b] H (.bool (decide (a=b))):=by
 refine fO Tryz.func21 ?_;have h1:=aOz f2 g2 a.names b.names;have h2:=aOx f3 g3 a.events b.events;rw[←aSq];refine hK anA.eq_1 ?_;refine dY (.of (zAx AV.bool ?_));generalize decide (a.names=b.names)=p1;generalize decide (a.events=b.events)=p2;cases p1<;>cases p2<;>simp[Bool.and_assoc]
end
end Go.Proofs.YtennnelammaapaaGreatDoor

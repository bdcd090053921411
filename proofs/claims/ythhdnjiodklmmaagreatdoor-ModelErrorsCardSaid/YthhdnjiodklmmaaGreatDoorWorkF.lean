/- The texts 6 of 8 beneath the rows of this seat (joined by program): the abstract machine, and what the functions answer. No condition. -/
import Derived.Test.YthhdnjiodklmmaaGreatDoorWorkE
import Derived.Sort.AssemblyPlain
set_option linter.unusedSimpArgs false
set_option linter.unusedVariables false
set_option linter.unusedSectionVars false
/- Sorting texts by a comparison, after the kit's plain sort: what lies in the slice behind each function. No condition but how long it is. -/
namespace Go.Gw
open Go Go.Aw
abbrev fC:={s:Txt // s.length≤1073741824}
instance:Inhabited fC:=⟨⟨[],by simp⟩⟩
def dC(d:Array fC):List AV:=d.toList.map fun x=>AV.str x.1
theorem bO(d:Array fC):(dC d).length=d.size:=by simp[dC]
theorem bE{d:Array fC}{i:Nat}(h:i<d.size):(dC d).getD i .top=.str (d[i]!).1:=by
 simp[dC,List.getD_eq_getElem?_getD,h]
theorem wJ(cs:List AV)(i:Nat)(x:AV)(h:i<cs.length):cT cs i [x]=cs.set i x:=by
 rw[List.set_eq_take_append_cons_drop,if_pos h];simp[cT]
theorem aGZ(d:Array fC)(i:Nat)(x:fC)(h:i<d.size):cT (dC d) i [.str x.1]=dC (d.setIfInBounds i x):=by
 rw[wJ _ _ _ (by rw[bO];exact h)]
 simp[dC,Array.toList_setIfInBounds,List.map_set]
theorem cU(d:Array fC)(i j:Nat):(Sort.swp d i j).size=d.size:=by simp[Sort.swp]
theorem eH{d:Array fC}{i j:Nat}(hi:i<d.size)(hj:j<d.size):cT (cT (dC d) i [.str (d[j]!).1]) j [.str (d[i]!).1]=dC (Sort.swp d i j):=by
 rw[aGZ _ _ _ hi,aGZ _ _ _ (by simpa using hj)];rfl
theorem aRm{cs:List AV}{i:Nat}{x:AV}(h:i<cs.length):(cT cs i [x]).length=cs.length:=by rw[wJ _ _ _ h,List.length_set]
theorem hU(d:Array fC){i n:Nat}(hn:d.size=n)(h:i<n)(x:AV):(cT (dC d) i [x]).length=n:=by rw[aRm (by rw[bO,hn];exact h),bO,hn]
theorem eV(n v:Nat)(d:Array fC):ClB n (.cells v (dC d)):=fun x hx=>by
 obtain⟨y,_,rfl⟩:=List.mem_map.1 hx;exact .str _
end Go.Gw
namespace Go.Aw
def qU(P:Program)(f:AV)(c:Go.Gw.fC→Go.Gw.fC→Int):Prop:=∀a b H,ACall P f [.str a.1,.str b.1] H (fun v H'=>v=.int .i64 (c a b)∧H'=H)
theorem cE{P:Program}{g:Bool}{f:AV}{c:Go.Gw.fC→Go.Gw.fC→Int}{a b:Go.Gw.fC}{H:AHeap}{K:AV→Prop}(h:qU P f c)(hk:K (.int .i64 (c a b))):jE P g f [.str a.1,.str b.1] H K:=⟨_,fun _=>h a b H,hk⟩
end Go.Aw
namespace Go.Proofs.YthhdnjiodklmmaaGreatDoor
open Go Go.Aw Go.Gw
set_option linter.unusedSimpArgs false
set_option linter.unusedVariables false
set_option maxRecDepth 20000
set_option maxHeartbeats 4000000
def aBk:List Pl:=[.free,.free,.free,.free,.free,.free,.pure 0,.pure 0,.free,.free,.pure 0,.pure 0,.pure 0,.eff [false,false,true,false,false],.pure 0,.eff [false,false]]
def nC:List Pl:=[.free,.free,.free,.free,.free,.free,.free,.free,.pure 0,.pure 0,.free,.free,.pure 0,.pure 0,.pure 0,.eff [false,false,true,false,false],.pure 0,.eff [false,false]]
def fK:List Pl:=[.free,.free,.free,.free,.free,.free,.free,.free,.free,.free,.free,.free,.pure 0,.pure 0,.free,.free,.free,.free,.pure 0,.pure 0,.pure 0,.eff [false,false,true,false,false],.pure 0,.eff [false,false]]
def aBl:List Pl:=[.free,.free,.free,.free,.free,.free,.free,.free,.free,.free,.pure 0,.pure 0,.free,.free,.pure 0,.pure 0,.pure 0,.eff [false,false,true,false,false],.pure 0,.eff [false,false]]
attribute [go_sem] aBk nC fK aBl
theorem aRn{d:Array fC}{a b n lc blk v:Nat}(hn:n=d.size)(hl:n≤1073741824)(hb:b≤n)(hb1:1≤b)(F:AV)(H:AHeap)(hh:hget H blk=.cells v (dC d)):
  ACalls Tryz.prog 220 [.osl 1 blk v 0 n lc,.int .i64 a,.int .i64 b,F] H (fun r H'=>r=.tup []∧H'=aD H blk (.cells v (dC (Sort.reverseRange d a b)))):=by
 refine bQ Tryz.func220 rfl (Nat.le_of_ble_eq_true rfl) ?_
 have hg:=fun b=>hS hh trivial b
 have hs:=fJ H blk
 have hw:IntKind.i64.wrap ((b:Int)-1)=((b-1:Nat):Int):=aH (by omega) (by omega)
 repeat' first|(refine gS ?_;simp only[go_sem,hw])|refine gA ?_|(refine gD (fun h=>?_) (fun h=>?_)<;>try exact aB h)|fail
 refine aR (ι:=Nat×Nat×Array fC) (fun s=>[(0,.osl 1 blk v 0 n lc),(8,.int .i64 s.1),(9,.int .i64 s.2.1)]) (fun s=>aD H blk (.cells v (dC s.2.2)))
  (fun s=>Sort.reverseLoop s.1 s.2.1 s.2.2=Sort.reverseRange d a b∧s.2.2.size=n∧s.2.1<n) (fun s=>s.2.1-s.1) (a,b-1,d) ⟨rfl,hn.symm,by simp only;omega⟩ ?_ (kM hh trivial).symm ?_
 ·simp[go_sem]
 rintro⟨i,j,E⟩ ⟨h1,h2,h3⟩
 simp only at h1 h2 h3 ⊢
 by_cases hlt:i<j
 ·have hli:decide ((i:Int)<(j:Int))=true:=decide_eq_true (by omega)
  have gi:=bE (d:=E) (show i<E.size by omega)
  have gj:=bE (d:=E) (show j<E.size by omega)
  have hsw:=eH (d:=E) (show i<E.size by omega) (show j<E.size by omega)
  have hw1:IntKind.i64.wrap ((i:Int)+1)=((i+1:Nat):Int):=aH (by omega) (by omega)
  have hw2:IntKind.i64.wrap ((j:Int)-1)=((j-1:Nat):Int):=aH (by omega) (by omega)
  have sl:=hU E h2 (show i<n by omega)
  repeat' first|((first|refine mx [3] aBk ?_|refine gS ?_);simp only[go_sem,hli,hg,hs,gi,gj,hsw,hw1,hw2,Nat.mul_one,bO,h2,sl])|refine gA ?_|(refine gD (fun h=>?_) (fun h=>?_)<;>try exact aB h)|fail
  rw[Sort.reverseLoop,if_pos hlt]at h1
  exact⟨(i+1,j-1,Sort.swp E i j),⟨h1,by simp only[cU];exact h2,by simp only;omega⟩,by simp only;omega,⟨rfl,rfl⟩,rfl⟩
 ·have hli:decide ((i:Int)<(j:Int))=false:=decide_eq_false (by omega)
  repeat' first|(refine gS ?_;simp only[go_sem,hli])|refine gA ?_|(refine gD (fun h=>?_) (fun h=>?_)<;>try exact aB h)|fail
  rw[Sort.reverseLoop,if_neg hlt]at h1
  rw[←h1]
  exact fY (eV _ _ _) _ ⟨rfl,rfl⟩
section
variable {lt:fC→fC→Bool} {c:fC→fC→Int} {fn:Fn} {fs cs:List AV}
theorem aG0(hc:∀x y,decide (c x y<0)=lt x y)(hf:qU Tryz.prog (.func fn fs cs) c){d:Array fC}{a b n lc blk v:Nat}(hn:n=d.size)(hl:n≤1073741824)(hb:b≤n)(hab:a≤b)(H:AHeap)(hh:hget H blk=.cells v (dC d)):
  ACalls Tryz.prog 216 [.osl 1 blk v 0 n lc,.int .i64 a,.int .i64 b,.func fn fs cs] H (fun r H'=>r=.tup []∧H'=aD H blk (.cells v (dC (Sort.insertionSort lt d a b)))):=by
 refine bQ Tryz.func216 rfl (Nat.le_of_ble_eq_true rfl) ?_
 have hg:=fun b=>hS hh trivial b
 have hs:=fJ H blk
 have hw:IntKind.i64.wrap ((a:Int)+1)=((a+1:Nat):Int):=aH (by omega) (by omega)
 repeat' first|(refine gS ?_;simp only[go_sem,hw])|refine gA ?_|(refine gD (fun h=>?_) (fun h=>?_)<;>try exact aB h)|fail
 refine aR (ι:=Nat×Array fC) (fun s=>[(0,.osl 1 blk v 0 n lc),(1,.int .i64 a),(2,.int .i64 b),(3,.func fn fs cs),(8,.int .i64 s.1)]) (fun s=>aD H blk (.cells v (dC s.2)))
  (fun s=>Sort.insOuter lt a b s.1 s.2=Sort.insertionSort lt d a b∧s.2.size=n∧a<s.1) (fun s=>b-s.1) (a+1,d) ⟨rfl,hn.symm,Nat.lt_succ_self _⟩ ?_ (kM hh trivial).symm ?_
 ·simp[go_sem]
 rintro⟨i,E⟩ ⟨h1,h2,h3⟩
 simp only at h1 h2 h3 ⊢
 by_cases hlt:i<b
 ·rw[Sort.insOuter,if_pos hlt]at h1
  have hli:decide ((i:Int)<(b:Int))=true:=decide_eq_true (by omega)
  have hw1:IntKind.i64.wrap ((i:Int)+1)=((i+1:Nat):Int):=aH (by omega) (by omega)
  repeat' first|(refine gS ?_;simp only[go_sem,hli])|refine gA ?_|(refine gD (fun h=>?_) (fun h=>?_)<;>try exact aB h)|fail
  refine aR (ι:=Nat×Array fC) (fun s=>[(0,.osl 1 blk v 0 n lc),(1,.int .i64 a),(2,.int .i64 b),(3,.func fn fs cs),(8,.int .i64 i),(9,.int .i64 s.1)]) (fun s=>aD H blk (.cells v (dC s.2)))
   (fun s=>Sort.insInner lt a s.1 s.2=Sort.insInner lt a i E∧s.2.size=n∧s.1≤i) (fun s=>s.1) (i,E) ⟨rfl,h2,Nat.le_refl _⟩ ?_ rfl ?_
  ·simp[go_sem]
  rintro⟨j,D⟩ ⟨k1,k2,k3⟩
  simp only at k1 k2 k3 ⊢
  by_cases hj:a<j
  ·obtain⟨p,rfl⟩:∃p,j=p+1:=⟨j-1,by omega⟩
   have hli2:decide ((a:Int)<((p+1:Nat):Int))=true:=decide_eq_true (by omega)
   have gi:=bE (d:=D) (show p+1<D.size by omega)
   have gj:=bE (d:=D) (show p<D.size by omega)
   have hsw:=eH (d:=D) (show p+1<D.size by omega) (show p<D.size by omega)
   have sl:=hU D k2 (show p+1<n by omega)
   have hw2:IntKind.i64.wrap (((p+1:Nat):Int)-1)=((p:Nat):Int):=aH (by omega) (by omega)
   rw[Sort.insInner]at k1
   have hap:decide (p+1>a)=true:=decide_eq_true hj
   rw[hap,Bool.true_and]at k1
   repeat' first|((first|refine mx [6] nC ?_|refine gS ?_);simp only[go_sem,hli2,hg,hs,gi,gj,hw2,Nat.mul_one,bO,k2])|refine gA ?_|(refine gD (fun h=>?_) (fun h=>?_)<;>try exact aB h)|fail
   refine cE hf ?_
   simp only[go_sem,hc]
   cases hxy:lt D[p+1]! D[p]! with
   |true=>
    rw[hxy,if_pos rfl]at k1
    repeat' first|((first|refine mx [6] nC ?_|refine gS ?_);simp only[go_sem,hxy,hg,hs,gi,gj,hsw,hw2,Nat.mul_one,bO,k2,sl])|refine gA ?_|(refine gD (fun h=>?_) (fun h=>?_)<;>try exact aB h)|fail
    exact⟨(p,Sort.swp D (p+1) p),⟨k1,by simp only[cU];exact k2,by simp only;omega⟩,Nat.lt_succ_self _,rfl,rfl⟩
   |false=>
    rw[hxy,if_neg (by simp)]at k1
    repeat' first|((first|refine mx [6] nC ?_|refine gS ?_);simp only[go_sem,hxy,hg,hs,hw1])|refine gA ?_|(refine gD (fun h=>?_) (fun h=>?_)<;>try exact aB h)|fail
    exact⟨(i+1,D),⟨by rw[←k1]at h1;exact h1,k2,by simp only;omega⟩,by simp only;omega,rfl,rfl⟩
  ·have hli2:decide ((a:Int)<(j:Int))=false:=decide_eq_false (by omega)
   have k4:Sort.insInner lt a j D=D:=by
    cases j with
    |zero=>rfl
    |succ p=>rw[Sort.insInner,if_neg (by rw[decide_eq_false (by omega)];simp)]
   rw[k4]at k1
   repeat' first|((first|refine mx [6] nC ?_|refine gS ?_);simp only[go_sem,hli2,hg,hs,hw1])|refine gA ?_|(refine gD (fun h=>?_) (fun h=>?_)<;>try exact aB h)|fail
   exact⟨(i+1,D),⟨by rw[←k1]at h1;exact h1,k2,by simp only;omega⟩,by simp only;omega,rfl,rfl⟩
 ·have hli:decide ((i:Int)<(b:Int))=false:=decide_eq_false (by omega)
  repeat' first|(refine gS ?_;simp only[go_sem,hli])|refine gA ?_|(refine gD (fun h=>?_) (fun h=>?_)<;>try exact aB h)|fail
  rw[Sort.insOuter,if_neg hlt]at h1
  rw[←h1]
  exact fY (eV _ _ _) _ ⟨rfl,rfl⟩
theorem aDu(hc:∀x y,decide (c x y<0)=lt x y)(hf:qU Tryz.prog (.func fn fs cs) c){d:Array fC}{lo hi f n lc blk v:Nat}(hn:n=d.size)(hl:n≤1073741824)(hb:f+hi≤n)(hlo:lo≤n)(H:AHeap)(hh:hget H blk=.cells v (dC d)):
  ACalls Tryz.prog 238 [.osl 1 blk v 0 n lc,.int .i64 lo,.int .i64 hi,.int .i64 f,.func fn fs cs] H (fun r H'=>r=.tup []∧H'=aD H blk (.cells v (dC (Sort.siftDown lt hi f lo d)))):=by
 refine bQ Tryz.func238 rfl (Nat.le_of_ble_eq_true rfl) ?_
 have hg:=fun b=>hS hh trivial b
 have hs:=fJ H blk
 repeat' first|(refine gS ?_;simp only[go_sem])|refine gA ?_|(refine gD (fun h=>?_) (fun h=>?_)<;>try exact aB h)|fail
 refine aR (ι:=Nat×Array fC) (fun s=>[(0,.osl 1 blk v 0 n lc),(2,.int .i64 hi),(3,.int .i64 f),(4,.func fn fs cs),(10,.int .i64 s.1)]) (fun s=>aD H blk (.cells v (dC s.2)))
  (fun s=>Sort.siftDown lt hi f s.1 s.2=Sort.siftDown lt hi f lo d∧s.2.size=n∧s.1≤n) (fun s=>hi-s.1) (lo,d) ⟨rfl,hn.symm,hlo⟩ ?_ (kM hh trivial).symm ?_
 ·simp[go_sem]
 rintro⟨r,E⟩ ⟨h1,h2,hr⟩
 simp only at h1 h2 hr ⊢
 rw[Sort.siftDown]at h1
 by_cases c1:2 * r+1≥hi
 ·rw[dif_pos c1]at h1
  have hw0:IntKind.i64.wrap (2 * (r:Int))=((2 * r:Nat):Int):=aH (by omega) (by omega)
  have hw1:IntKind.i64.wrap (((2 * r:Nat):Int)+1)=((2 * r+1:Nat):Int):=aH (by omega) (by omega)
  have hli:decide ((hi:Int)≤((2 * r+1:Nat):Int))=true:=decide_eq_true (by omega)
  repeat' first|(refine gS ?_;simp only[go_sem,hw0,hw1,hli])|refine gA ?_|(refine gD (fun h=>?_) (fun h=>?_)<;>try exact aB h)|fail
  rw[←h1]
  exact fY (eV _ _ _) _ ⟨rfl,rfl⟩
 have hw0:IntKind.i64.wrap (2 * (r:Int))=((2 * r:Nat):Int):=aH (by omega) (by omega)
 have hw1:IntKind.i64.wrap (((2 * r:Nat):Int)+1)=((2 * r+1:Nat):Int):=aH (by omega) (by omega)
 have hw2:IntKind.i64.wrap (((2 * r+1:Nat):Int)+1)=((2 * r+2:Nat):Int):=aH (by omega) (by omega)
 have hw3:IntKind.i64.wrap ((f:Int)+((2 * r+1:Nat):Int))=((f+(2 * r+1):Nat):Int):=aH (by omega) (by omega)
 have hw4:IntKind.i64.wrap (((f+(2 * r+1):Nat):Int)+1)=((f+(2 * r+1)+1:Nat):Int):=aH (by omega) (by omega)
 have hw5:IntKind.i64.wrap ((f:Int)+(r:Int))=((f+r:Nat):Int):=aH (by omega) (by omega)
 have hw6:IntKind.i64.wrap ((f:Int)+((2 * r+2:Nat):Int))=((f+(2 * r+2):Nat):Int):=aH (by omega) (by omega)
 have hli:decide ((hi:Int)≤((2 * r+1:Nat):Int))=false:=decide_eq_false (by omega)
 have gr:=bE (d:=E) (show f+r<E.size by omega)
 have gc:=bE (d:=E) (show f+(2 * r+1)<E.size by omega)
 rw[dif_neg c1]at h1
 by_cases c2:2 * r+1+1<hi
 ·have hli2:decide (((2 * r+2:Nat):Int)<(hi:Int))=true:=decide_eq_true (by omega)
  rw[show f+(2 * r+1)+1=f+(2 * r+2)by omega]at h1
  have gd2:=bE (d:=E) (show f+(2 * r+2)<E.size by omega)
  rw[decide_eq_true c2,Bool.true_and]at h1
  repeat' first|((first|refine mx [6] fK ?_|refine gS ?_);simp only[go_sem,hg,hs,hw0,hw1,hw2,hw3,hw4,hw5,hw6,hli,gr,gc,Nat.mul_one,bO,h2,hli2,gd2])|refine gA ?_|(refine gD (fun h=>?_) (fun h=>?_)<;>try exact aB h)|fail
  refine cE hf ?_
  simp only[go_sem,hc]
  cases hxy:lt E[f+(2 * r+1)]! E[f+(2 * r+2)]! with
  |true=>
   rw[hxy,if_pos rfl,dif_pos (show 2 * r+2<hi by omega)]at h1
   repeat' first|((first|refine mx [6] fK ?_|refine gS ?_);simp only[go_sem,hxy,hg,hs,hw0,hw1,hw2,hw3,hw4,hw5,hw6,hli,gr,gc,Nat.mul_one,bO,h2,hli2,gd2])|refine gA ?_|(refine gD (fun h=>?_) (fun h=>?_)<;>try exact aB h)|fail
   refine cE hf ?_
   simp only[go_sem,hc]
   cases hyz:lt E[f+r]! E[f+(2 * r+2)]! with
   |true=>
    rw[hyz]at h1
    have hsw:=eH (d:=E) (show f+r<E.size by omega) (show f+(2 * r+2)<E.size by omega)
    have sl:=hU E h2 (show f+r<n by omega)
    repeat' first|((first|refine mx [6] fK ?_|refine gS ?_);simp only[go_sem,hyz,hg,hs,hw0,hw1,hw2,hw3,hw4,hw5,hw6,hli,gr,gc,Nat.mul_one,bO,h2,gd2,hsw,sl])|refine gA ?_|(refine gD (fun h=>?_) (fun h=>?_)<;>try exact aB h)|fail
    exact⟨(2 * r+2,Sort.swp E (f+r) (f+(2 * r+2))),⟨h1,by simp only[cU];exact h2,by simp only;omega⟩,by simp only;omega,rfl,rfl⟩
   |false=>
    rw[hyz]at h1
    repeat' first|((first|refine mx [6] fK ?_|refine gS ?_);simp only[go_sem,hyz,hg,hs,hw0,hw1,hw2,hw3,hw4,hw5,hw6,hli,gr,gc,Nat.mul_one,bO,h2,gd2])|refine gA ?_|(refine gD (fun h=>?_) (fun h=>?_)<;>try exact aB h)|fail
    rw[←(show E=Sort.siftDown lt hi f lo d from h1)]
    exact fY (eV _ _ _) _ ⟨rfl,rfl⟩
  |false=>
   rw[hxy,if_neg (by simp)]at h1
   repeat' first|((first|refine mx [6] fK ?_|refine gS ?_);simp only[go_sem,hxy,hg,hs,hw0,hw1,hw2,hw3,hw4,hw5,hw6,hli,gr,gc,Nat.mul_one,bO,h2,hli2])|refine gA ?_|(refine gD (fun h=>?_) (fun h=>?_)<;>try exact aB h)|fail
   refine cE hf ?_
   simp only[go_sem,hc]
   cases hyz:lt E[f+r]! E[f+(2 * r+1)]! with
   |true=>
    rw[hyz]at h1
    have hsw:=eH (d:=E) (show f+r<E.size by omega) (show f+(2 * r+1)<E.size by omega)
    have sl:=hU E h2 (show f+r<n by omega)
    repeat' first|((first|refine mx [6] fK ?_|refine gS ?_);simp only[go_sem,hyz,hg,hs,hw0,hw1,hw2,hw3,hw4,hw5,hw6,hli,gr,gc,Nat.mul_one,bO,h2,hsw,sl])|refine gA ?_|(refine gD (fun h=>?_) (fun h=>?_)<;>try exact aB h)|fail
    exact⟨(2 * r+1,Sort.swp E (f+r) (f+(2 * r+1))),⟨h1,by simp only[cU];exact h2,by simp only;omega⟩,by simp only;omega,rfl,rfl⟩
   |false=>
    rw[hyz]at h1
    repeat' first|((first|refine mx [6] fK ?_|refine gS ?_);simp only[go_sem,hyz,hg,hs,hw0,hw1,hw2,hw3,hw4,hw5,hw6,hli,gr,gc,Nat.mul_one,bO,h2])|refine gA ?_|(refine gD (fun h=>?_) (fun h=>?_)<;>try exact aB h)|fail
    rw[←(show E=Sort.siftDown lt hi f lo d from h1)]
    exact fY (eV _ _ _) _ ⟨rfl,rfl⟩
 ·have hli2:decide (((2 * r+2:Nat):Int)<(hi:Int))=false:=decide_eq_false (by omega)
  rw[decide_eq_false c2,Bool.false_and,if_neg (by simp)]at h1
  repeat' first|((first|refine mx [6] fK ?_|refine gS ?_);simp only[go_sem,hg,hs,hw0,hw1,hw2,hw3,hw4,hw5,hw6,hli,gr,gc,Nat.mul_one,bO,h2,hli2])|refine gA ?_|(refine gD (fun h=>?_) (fun h=>?_)<;>try exact aB h)|fail
  refine cE hf ?_
  simp only[go_sem,hc]
  cases hyz:lt E[f+r]! E[f+(2 * r+1)]! with
  |true=>
   rw[hyz]at h1
   have hsw:=eH (d:=E) (show f+r<E.size by omega) (show f+(2 * r+1)<E.size by omega)
   have sl:=hU E h2 (show f+r<n by omega)
   repeat' first|((first|refine mx [6] fK ?_|refine gS ?_);simp only[go_sem,hyz,hg,hs,hw0,hw1,hw2,hw3,hw4,hw5,hw6,hli,gr,gc,Nat.mul_one,bO,h2,hsw,sl])|refine gA ?_|(refine gD (fun h=>?_) (fun h=>?_)<;>try exact aB h)|fail
   exact⟨(2 * r+1,Sort.swp E (f+r) (f+(2 * r+1))),⟨h1,by simp only[cU];exact h2,by simp only;omega⟩,by simp only;omega,rfl,rfl⟩
  |false=>
   rw[hyz]at h1
   repeat' first|((first|refine mx [6] fK ?_|refine gS ?_);simp only[go_sem,hyz,hg,hs,hw0,hw1,hw2,hw3,hw4,hw5,hw6,hli,gr,gc,Nat.mul_one,bO,h2])|refine gA ?_|(refine gD (fun h=>?_) (fun h=>?_)<;>try exact aB h)|fail
   rw[←(show E=Sort.siftDown lt hi f lo d from h1)]
   exact fY (eV _ _ _) _ ⟨rfl,rfl⟩
theorem oE(hi f:Nat):∀(m r:Nat) (d:Array fC),hi-r≤m→(Sort.siftDown lt hi f r d).size=d.size:=by
 intro m
 induction m with
 |zero=>intro r d h;rw[Sort.siftDown,dif_pos (by omega)]
 |succ m ih=>
  intro r d h
  rw[Sort.siftDown]
  repeat' split
  all_goals first|rfl|(rw[ih _ _ (by omega),cU])
theorem aKn(hc:∀x y,decide (c x y<0)=lt x y)(hf:qU Tryz.prog (.func fn fs cs) c){d:Array fC}{a b n lc blk v:Nat}(hn:n=d.size)(hl:n≤1073741824)(hb:b≤n)(hab:a<b)(H:AHeap)(hh:hget H blk=.cells v (dC d)):
  ACalls Tryz.prog 217 [.osl 1 blk v 0 n lc,.int .i64 a,.int .i64 b,.func fn fs cs] H (fun r H'=>r=.tup []∧H'=aD H blk (.cells v (dC (Sort.heapSort lt d a b)))):=by
 refine bQ Tryz.func217 rfl (Nat.le_of_ble_eq_true rfl) ?_
 have hg:=fun b=>hS hh trivial b
 have hs:=fJ H blk
 obtain⟨m,rfl⟩:∃m,b=a+m:=⟨b-a,by omega⟩
 have hw0:IntKind.i64.wrap (((a+m:Nat):Int)-(a:Int))=(m:Int):=aH (by omega) (by omega)
 have hw1:IntKind.i64.wrap ((m:Int)-1)=((m-1:Nat):Int):=aH (by omega) (by omega)
 have hw2:IntKind.i64.wrap (((m-1:Nat):Int).tdiv 2)=(((m-1) / 2:Nat):Int):=by rw[Int.tdiv_eq_ediv_of_nonneg (by omega)];exact aH (by omega) (by omega)
 have hR:Sort.heapSort lt d a (a+m)=Sort.heapPop lt a m (Sort.heapBuild lt m a ((m-1) / 2+1) d):=by rw[Sort.heapSort,show a+m-a=m by omega]
 rw[hR]
 repeat' first|(refine gS ?_;simp only[go_sem,hw0,hw1,hw2])|refine gA ?_|(refine gD (fun h=>?_) (fun h=>?_)<;>try exact aB h)|fail
 refine aR (ι:=Nat×Array fC) (fun s=>[(0,.osl 1 blk v 0 n lc),(3,.func fn fs cs),(8,.int .i64 a),(9,.int .i64 0),(10,.int .i64 m),(11,.int .i64 ((s.1:Int)-1))]) (fun s=>aD H blk (.cells v (dC s.2)))
  (fun s=>Sort.heapBuild lt m a s.1 s.2=Sort.heapBuild lt m a ((m-1) / 2+1) d∧s.2.size=n∧s.1≤m) (fun s=>s.1) ((m-1) / 2+1,d) ⟨rfl,hn.symm,by simp only;omega⟩ ?_ (kM hh trivial).symm ?_
 ·simp[go_sem]
 rintro⟨k,E⟩ ⟨h1,h2,h3⟩
 simp only at h1 h2 h3 ⊢
 cases k with
 |succ k=>
  rw[show((k+1:Nat):Int)-1=(k:Int)by omega]
  have hli:decide (0≤(k:Int))=true:=decide_eq_true (by omega)
  rw[Sort.heapBuild]at h1
  repeat' first|(refine gS ?_;simp only[go_sem,hli])|refine gA ?_|(refine gD (fun h=>?_) (fun h=>?_)<;>try exact aB h)|fail
  refine bJ (aDu hc hf h2.symm hl (show a+m≤n from hb) (by omega) _ (hg _)) vJ ?_
  rintro r H' ⟨rfl,rfl⟩
  simp only[go_sem,hs]
  have hw3:IntKind.i64.wrap ((k:Int)-1)=(k:Int)-1:=wrap_i64 (by omega) (by omega)
  repeat' first|(refine gS ?_;simp only[go_sem,hw3])|refine gA ?_|(refine gD (fun h=>?_) (fun h=>?_)<;>try exact aB h)|fail
  exact⟨(k,Sort.siftDown lt m a k E),⟨h1,by simp only;rw[oE m a _ k E (Nat.le_refl _)];exact h2,by simp only;omega⟩,Nat.lt_succ_self _,rfl,rfl⟩
 |zero=>
 have hli:decide (0≤((0:Nat):Int)-1)=false:=rfl
 have hli':decide ((0:Int)≤ -1)=false:=rfl
 rw[Sort.heapBuild]at h1
 repeat' first|(refine gS ?_;simp only[go_sem,hli,hli',hw1])|refine gA ?_|(refine gD (fun h=>?_) (fun h=>?_)<;>try exact aB h)|fail
 rw[←h1]
 refine aR (ι:=Nat×Array fC) (fun s=>[(0,.osl 1 blk v 0 n lc),(3,.func fn fs cs),(8,.int .i64 a),(9,.int .i64 0),(12,.int .i64 ((s.1:Int)-1))]) (fun s=>aD H blk (.cells v (dC s.2)))
  (fun s=>Sort.heapPop lt a s.1 s.2=Sort.heapPop lt a m E∧s.2.size=n∧s.1≤m) (fun s=>s.1) (m,E) ⟨rfl,h2,Nat.le_refl _⟩ ?_ rfl ?_
 ·simp[go_sem]
  omega
 clear h1 h2 h3
 rintro⟨k,D⟩ ⟨h1,h2,h3⟩
 simp only at h1 h2 h3 ⊢
 cases k with
 |succ k=>
  rw[show((k+1:Nat):Int)-1=(k:Int)by omega]
  have hli:decide (0≤(k:Int))=true:=decide_eq_true (by omega)
  have hw4:IntKind.i64.wrap ((a:Int)+(k:Int))=((a+k:Nat):Int):=aH (by omega) (by omega)
  have gi:=bE (d:=D) (show a<D.size by omega)
  have gj:=bE (d:=D) (show a+k<D.size by omega)
  have hsw:=eH (d:=D) (show a<D.size by omega) (show a+k<D.size by omega)
  have sl:=hU D h2 (show a<n by omega)
  rw[Sort.heapPop]at h1
  repeat' first|((first|refine mx [10] aBl ?_|refine gS ?_);simp only[go_sem,hli,hw4,hg,hs,gi,gj,hsw,sl,Nat.mul_one,bO,h2])|refine gA ?_|(refine gD (fun h=>?_) (fun h=>?_)<;>try exact aB h)|fail
  refine bJ (aDu (lo:=0) hc hf (show n=(Sort.swp D a (a+k)).size by rw[cU];exact h2.symm) hl (show a+k≤n by omega) (by omega) _ (hg _)) vJ ?_
  rintro r H' ⟨rfl,rfl⟩
  simp only[go_sem,hs]
  have hw3:IntKind.i64.wrap ((k:Int)-1)=(k:Int)-1:=wrap_i64 (by omega) (by omega)
  repeat' first|(refine gS ?_;simp only[go_sem,hw3])|refine gA ?_|(refine gD (fun h=>?_) (fun h=>?_)<;>try exact aB h)|fail
  exact⟨(k,Sort.siftDown lt k a 0 (Sort.swp D a (a+k))),⟨h1,by simp only;rw[oE k a _ 0 _ (Nat.le_refl _),cU];exact h2,by simp only;omega⟩,Nat.lt_succ_self _,rfl,rfl⟩
 |zero=>
  have hli2:decide (0≤((0:Nat):Int)-1)=false:=rfl
  rw[Sort.heapPop]at h1
  repeat' first|(refine gS ?_;simp only[go_sem,hli2,hli'])|refine gA ?_|(refine gD (fun h=>?_) (fun h=>?_)<;>try exact aB h)|fail
  rw[←h1]
  exact fY (eV _ _ _) _ ⟨rfl,rfl⟩
end
end Go.Proofs.YthhdnjiodklmmaaGreatDoor
/- Sorting texts by a comparison: the partitions. No condition but how long the slice is. -/
namespace Go.Proofs.YthhdnjiodklmmaaGreatDoor
open Go Go.Aw Go.Gw
set_option linter.unusedSimpArgs false
set_option linter.unusedVariables false
set_option maxRecDepth 20000
set_option maxHeartbeats 8000000
def bG:List Pl:=[.free,.free,.free,.free,.free,.free,.pure 0,.pure 0,.free,.free,.pure 0,.pure 0,.pure 0,.eff [false,false,true,false,false],.pure 0,.eff [false,false]]
attribute [go_sem] bG
theorem fL{H:AHeap}{i:Nat}{b:ABlk}{v:AV}(hb:ClB H.length b)(hp:Pur v)(R:AV→AHeap→Prop)(hR:R v (aD H i b)):
  ∃H1 L y,aD H i b=H1++L∧H1.length=H.length∧(∀(j:Nat) (c:ABlk),H1[j]?=some c→H[j]?=some c∨ClB H.length c)∧Frz H.length (aD H i b) v y∧R y H1:=
 ⟨aD H i b,[],v,(List.append_nil _).symm,cH H i b,zS hb,.cl _ (hp.cl _),hR⟩
section
variable {lt:fC→fC→Bool} {c:fC→fC→Int} {fn:Fn} {fs cs:List AV}
theorem aEx(hc:∀x y,decide (c x y<0)=lt x y)(hf:qU Tryz.prog (.func fn fs cs) c){d:Array fC}{a b p n lc blk v:Nat}(hn:n=d.size)(hl:n≤1073741824)(hb:b≤n)(hap:a≤p)(hpb:p<b)(H:AHeap)(hh:hget H blk=.cells v (dC d)):
  ACalls Tryz.prog 222 [.osl 1 blk v 0 n lc,.int .i64 a,.int .i64 b,.int .i64 p,.func fn fs cs] H (fun r H'=>r=.int .i64 ((Sort.partitionEqual lt d a b p).1:Nat)∧H'=aD H blk (.cells v (dC (Sort.partitionEqual lt d a b p).2))):=by
 refine bQ Tryz.func222 rfl (Nat.le_of_ble_eq_true rfl) ?_
 have hg:=fun b=>hS hh trivial b
 have hs:=fJ H blk
 have gi:=bE (d:=d) (show a<d.size by omega)
 have gj:=bE (d:=d) (show p<d.size by omega)
 have hsw:=eH (d:=d) (show a<d.size by omega) (show p<d.size by omega)
 have sl:=hU d hn.symm (show a<n by omega)
 have hw1:IntKind.i64.wrap ((a:Int)+1)=((a+1:Nat):Int):=aH (by omega) (by omega)
 have hw2:IntKind.i64.wrap ((b:Int)-1)=((b-1:Nat):Int):=aH (by omega) (by omega)
 have hR:Sort.partitionEqual lt d a b p=Sort.partEqLoop lt a (a+1) (b-1) (Sort.swp d a p):=rfl
 rw[hR]
 have hE0:(Sort.swp d a p).size=n:=by rw[cU];exact hn.symm
 repeat' first|((first|refine mx [1,8] bG ?_|refine gS ?_);simp only[go_sem,hh,hg,hs,gi,gj,hsw,sl,hw1,hw2,Nat.mul_one,bO,←hn])|refine gA ?_|(refine gD (fun h=>?_) (fun h=>?_)<;>try exact aB h)|fail
 generalize Sort.swp d a p=E0 at *
 refine aR (ι:=Nat×Nat×Array fC) (fun s=>[(0,.osl 1 blk v 0 n lc),(1,.int .i64 a),(4,.func fn fs cs),(11,.int .i64 s.1),(12,.int .i64 s.2.1)]) (fun s=>aD H blk (.cells v (dC s.2.2)))
  (fun s=>Sort.partEqLoop lt a s.1 s.2.1 s.2.2=Sort.partEqLoop lt a (a+1) (b-1) E0∧s.2.2.size=n∧a<s.1∧s.1≤n+1∧s.2.1<n) (fun s=>s.2.1+1-s.1) (a+1,b-1,E0) ⟨rfl,hE0,by simp only;omega,by simp only;omega,by simp only;omega⟩ ?_ rfl ?_
 ·simp[go_sem]
 rintro⟨i,j,D⟩ ⟨w1,w2,w3,w4,w5⟩
 simp only at w1 w2 w3 w4 w5 ⊢
 rw[Sort.partEqLoop_eq]at w1
 have q1:=Sort.scanUp_ge (fun x=> !lt D[a]! x) D j i
 repeat' first|(refine gS ?_;simp only[go_sem])|refine gA ?_|(refine gD (fun h=>?_) (fun h=>?_)<;>try exact aB h)|fail
 refine hQ (ι:=Nat) (fun k=>[(0,.osl 1 blk v 0 n lc),(1,.int .i64 a),(4,.func fn fs cs),(11,.int .i64 k),(12,.int .i64 (j:Nat))]) (fun _=>aD H blk (.cells v (dC D))) (fun k=>k=Sort.scanUp (fun x=> !lt D[a]! x) D (j) (i)) ?_ ?_
 ·refine aR (ι:=Nat) (fun k=>[(0,.osl 1 blk v 0 n lc),(1,.int .i64 a),(4,.func fn fs cs),(11,.int .i64 k),(12,.int .i64 (j:Nat))]) (fun _=>aD H blk (.cells v (dC D))) (fun k=>Sort.scanUp (fun x=> !lt D[a]! x) D (j) k=Sort.scanUp (fun x=> !lt D[a]! x) D (j) (i)∧a<k∧k≤n+1) (fun k=>j+1-k) (i) ⟨rfl,by omega,by omega⟩ ?_ rfl ?_
  ·simp[go_sem]
  rintro k ⟨h1,h0,h2⟩
  rw[Sort.scanUp]at h1
  by_cases hij:k≤j
  ·have hli:decide ((k:Int)≤((j:Nat):Int))=true:=decide_eq_true (by omega)
   have gi:=bE (d:=D) (show k<D.size by omega)
   have ga:=bE (d:=D) (show a<D.size by omega)
   have hw1:IntKind.i64.wrap ((k:Int)+1)=((k+1:Nat):Int):=aH (by omega) (by omega)
   repeat' first|((first|refine mx [1,8] bG ?_|refine gS ?_);simp only[go_sem,hli,hg,hs,gi,ga,Nat.mul_one,bO,w2])|refine gA ?_|(refine gD (fun h=>?_) (fun h=>?_)<;>try exact aB h)|fail
   refine cE hf ?_
   simp only[go_sem,hc]
   cases hxy:lt D[a]! D[k]! with
   |false=>
    simp only[decide_eq_true hij,Bool.true_and,hxy,Bool.not_false,if_true]at h1
    repeat' first|((first|refine mx [1,8] bG ?_|refine gS ?_);simp only[go_sem,hxy,hw1])|refine gA ?_|(refine gD (fun h=>?_) (fun h=>?_)<;>try exact aB h)|fail
    exact⟨k+1,⟨h1,by omega,by omega⟩,by omega,rfl⟩
   |true=>
    simp only[decide_eq_true hij,Bool.true_and,hxy,Bool.not_true,Bool.false_eq_true,if_false]at h1
    repeat' first|((first|refine mx [1,8] bG ?_|refine gS ?_);simp only[go_sem,hxy])|refine gA ?_|(refine gD (fun h=>?_) (fun h=>?_)<;>try exact aB h)|fail
    exact⟨k,h1,rfl⟩
  ·have hli:decide ((k:Int)≤((j:Nat):Int))=false:=decide_eq_false (by omega)
   simp only[decide_eq_false hij,Bool.false_and,Bool.false_eq_true,if_false]at h1
   repeat' first|((first|refine mx [1,8] bG ?_|refine gS ?_);simp only[go_sem,hli])|refine gA ?_|(refine gD (fun h=>?_) (fun h=>?_)<;>try exact aB h)|fail
   exact⟨k,h1,rfl⟩
 rintro i2 hi2
 rw[←hi2]at w1 q1
 have q2:=Sort.scanDown_le (fun x=>lt D[a]! x) D i2 j
 repeat' first|(refine gS ?_;simp only[go_sem])|refine gA ?_|(refine gD (fun h=>?_) (fun h=>?_)<;>try exact aB h)|fail
 refine hQ (ι:=Nat) (fun k=>[(0,.osl 1 blk v 0 n lc),(1,.int .i64 a),(4,.func fn fs cs),(11,.int .i64 (i2:Nat)),(12,.int .i64 k)]) (fun _=>aD H blk (.cells v (dC D))) (fun k=>k=Sort.scanDown (fun x=>lt D[a]! x) D (i2) (j)) ?_ ?_
 ·refine aR (ι:=Nat) (fun k=>[(0,.osl 1 blk v 0 n lc),(1,.int .i64 a),(4,.func fn fs cs),(11,.int .i64 (i2:Nat)),(12,.int .i64 k)]) (fun _=>aD H blk (.cells v (dC D))) (fun k=>Sort.scanDown (fun x=>lt D[a]! x) D (i2) k=Sort.scanDown (fun x=>lt D[a]! x) D (i2) (j)∧k≤j) (fun k=>k) (j) ⟨rfl,Nat.le_refl _⟩ ?_ rfl ?_
  ·simp[go_sem]
  rintro k ⟨h1,h2⟩
  by_cases hij:i2≤k
  ·have hli:decide (((i2:Nat):Int)≤(k:Int))=true:=decide_eq_true (by omega)
   obtain⟨m,rfl⟩:∃m,k=m+1:=⟨k-1,by omega⟩
   rw[Sort.scanDown]at h1
   have gi:=bE (d:=D) (show m+1<D.size by omega)
   have ga:=bE (d:=D) (show a<D.size by omega)
   have hw1:IntKind.i64.wrap (((m+1:Nat):Int)-1)=((m:Nat):Int):=aH (by omega) (by omega)
   repeat' first|((first|refine mx [1,8] bG ?_|refine gS ?_);simp only[go_sem,hli,hg,hs,gi,ga,Nat.mul_one,bO,w2])|refine gA ?_|(refine gD (fun h=>?_) (fun h=>?_)<;>try exact aB h)|fail
   refine cE hf ?_
   simp only[go_sem,hc]
   cases hxy:lt D[a]! D[m+1]! with
   |true=>
    simp only[decide_eq_true hij,Bool.true_and,hxy,Bool.not_false,if_true]at h1
    repeat' first|((first|refine mx [1,8] bG ?_|refine gS ?_);simp only[go_sem,hxy,hw1])|refine gA ?_|(refine gD (fun h=>?_) (fun h=>?_)<;>try exact aB h)|fail
    exact⟨m,⟨h1,by omega⟩,Nat.lt_succ_self _,rfl⟩
   |false=>
    simp only[decide_eq_true hij,Bool.true_and,hxy,Bool.not_true,Bool.false_eq_true,if_false]at h1
    repeat' first|((first|refine mx [1,8] bG ?_|refine gS ?_);simp only[go_sem,hxy])|refine gA ?_|(refine gD (fun h=>?_) (fun h=>?_)<;>try exact aB h)|fail
    exact⟨m+1,h1,rfl⟩
  ·have hli:decide (((i2:Nat):Int)≤(k:Int))=false:=decide_eq_false (by omega)
   have e:Sort.scanDown (fun x=>lt D[a]! x) D (i2) k=k:=by
    cases k with
    |zero=>rfl
    |succ m=>rw[Sort.scanDown,if_neg (by rw[decide_eq_false hij];simp)]
   rw[e]at h1
   repeat' first|((first|refine mx [1,8] bG ?_|refine gS ?_);simp only[go_sem,hli])|refine gA ?_|(refine gD (fun h=>?_) (fun h=>?_)<;>try exact aB h)|fail
   exact⟨k,h1,rfl⟩
 rintro j2 hj2
 rw[←hj2]at w1 q2
 by_cases hgt:i2>j2
 ·have hli:decide ((j2:Int)<(i2:Int))=true:=decide_eq_true (by omega)
  simp only[if_pos hgt]at w1
  repeat' first|((first|refine mx [1,8] bG ?_|refine gS ?_);simp only[go_sem,hli])|refine gA ?_|(refine gD (fun h=>?_) (fun h=>?_)<;>try exact aB h)|fail
  rw[←w1]
  exact fL (eV _ _ _) (.int _ _) _ ⟨rfl,rfl⟩
 ·have hli:decide ((j2:Int)<(i2:Int))=false:=decide_eq_false (by omega)
  simp only[if_neg hgt]at w1
  have gi:=bE (d:=D) (show i2<D.size by omega)
  have gj:=bE (d:=D) (show j2<D.size by omega)
  have hsw:=eH (d:=D) (show i2<D.size by omega) (show j2<D.size by omega)
  have sl:=hU D w2 (show i2<n by omega)
  have hw3:IntKind.i64.wrap ((i2:Int)+1)=((i2+1:Nat):Int):=aH (by omega) (by omega)
  have hw4:IntKind.i64.wrap ((j2:Int)-1)=((j2-1:Nat):Int):=aH (by omega) (by omega)
  repeat' first|((first|refine mx [1,8] bG ?_|refine gS ?_);simp only[go_sem,hli,hg,hs,gi,gj,hsw,sl,hw3,hw4,Nat.mul_one,bO,w2])|refine gA ?_|(refine gD (fun h=>?_) (fun h=>?_)<;>try exact aB h)|fail
  exact⟨(i2+1,j2-1,Sort.swp D i2 j2),⟨w1,by simp only[cU];exact w2,by simp only;omega,by simp only;omega,by simp only;omega⟩,by simp only;omega,⟨rfl,rfl⟩,rfl⟩
theorem aKo(hc:∀x y,decide (c x y<0)=lt x y)(hf:qU Tryz.prog (.func fn fs cs) c){d:Array fC}{a b p n lc blk v:Nat}(hn:n=d.size)(hl:n≤1073741824)(hb:b≤n)(hap:a≤p)(hpb:p<b)(H:AHeap)(hh:hget H blk=.cells v (dC d)):
  ACalls Tryz.prog 223 [.osl 1 blk v 0 n lc,.int .i64 a,.int .i64 b,.int .i64 p,.func fn fs cs] H (fun r H'=>r=.tup [.int .i64 ((Sort.partition lt d a b p).1:Nat),.bool (Sort.partition lt d a b p).2.1]∧H'=aD H blk (.cells v (dC (Sort.partition lt d a b p).2.2))):=by
 refine bQ Tryz.func223 rfl (Nat.le_of_ble_eq_true rfl) ?_
 have hg:=fun b=>hS hh trivial b
 have hs:=fJ H blk
 have gi:=bE (d:=d) (show a<d.size by omega)
 have gj:=bE (d:=d) (show p<d.size by omega)
 have hsw:=eH (d:=d) (show a<d.size by omega) (show p<d.size by omega)
 have sl:=hU d hn.symm (show a<n by omega)
 have hw1:IntKind.i64.wrap ((a:Int)+1)=((a+1:Nat):Int):=aH (by omega) (by omega)
 have hw2:IntKind.i64.wrap ((b:Int)-1)=((b-1:Nat):Int):=aH (by omega) (by omega)
 have hE0:(Sort.swp d a p).size=n:=by rw[cU];exact hn.symm
 obtain⟨R,hR⟩:∃R,Sort.partition lt d a b p=R:=⟨_,rfl⟩
 rw[hR]
 unfold Sort.partition at hR
 repeat' first|((first|refine mx [1,8,10,18,21] bG ?_|refine gS ?_);simp only[go_sem,hh,hg,hs,gi,gj,hsw,sl,hw1,hw2,Nat.mul_one,bO,←hn])|refine gA ?_|(refine gD (fun h=>?_) (fun h=>?_)<;>try exact aB h)|fail
 generalize Sort.swp d a p=E0 at *
 have q1:=Sort.scanUp_ge (fun x=>lt x E0[a]!) E0 (b-1) (a+1)
 refine hQ (ι:=Nat) (fun k=>[(0,.osl 1 blk v 0 n lc),(1,.int .i64 a),(4,.func fn fs cs),(10,.int .i64 0),(11,.bool false),(12,.int .i64 k),(13,.int .i64 (b-1:Nat))]) (fun _=>aD H blk (.cells v (dC E0))) (fun k=>k=Sort.scanUp (fun x=>lt x E0[a]!) E0 (b-1) (a+1)) ?_ ?_
 ·refine aR (ι:=Nat) (fun k=>[(0,.osl 1 blk v 0 n lc),(1,.int .i64 a),(4,.func fn fs cs),(10,.int .i64 0),(11,.bool false),(12,.int .i64 k),(13,.int .i64 (b-1:Nat))]) (fun _=>aD H blk (.cells v (dC E0))) (fun k=>Sort.scanUp (fun x=>lt x E0[a]!) E0 (b-1) k=Sort.scanUp (fun x=>lt x E0[a]!) E0 (b-1) (a+1)∧a<k∧k≤n+1) (fun k=>b-1+1-k) (a+1) ⟨rfl,by omega,by omega⟩ ?_ rfl ?_
  ·simp[go_sem]
  rintro k ⟨h1,h0,h2⟩
  rw[Sort.scanUp]at h1
  by_cases hij:k≤b-1
  ·have hli:decide ((k:Int)≤((b-1:Nat):Int))=true:=decide_eq_true (by omega)
   have gi:=bE (d:=E0) (show k<E0.size by omega)
   have ga:=bE (d:=E0) (show a<E0.size by omega)
   have hw1:IntKind.i64.wrap ((k:Int)+1)=((k+1:Nat):Int):=aH (by omega) (by omega)
   repeat' first|((first|refine mx [1,8,10,18,21] bG ?_|refine gS ?_);simp only[go_sem,hli,hg,hs,gi,ga,Nat.mul_one,bO,hE0])|refine gA ?_|(refine gD (fun h=>?_) (fun h=>?_)<;>try exact aB h)|fail
   refine cE hf ?_
   simp only[go_sem,hc]
   cases hxy:lt E0[k]! E0[a]! with
   |true=>
    simp only[decide_eq_true hij,Bool.true_and,hxy,Bool.not_false,if_true]at h1
    repeat' first|((first|refine mx [1,8,10,18,21] bG ?_|refine gS ?_);simp only[go_sem,hxy,hw1])|refine gA ?_|(refine gD (fun h=>?_) (fun h=>?_)<;>try exact aB h)|fail
    exact⟨k+1,⟨h1,by omega,by omega⟩,by omega,rfl⟩
   |false=>
    simp only[decide_eq_true hij,Bool.true_and,hxy,Bool.not_true,Bool.false_eq_true,if_false]at h1
    repeat' first|((first|refine mx [1,8,10,18,21] bG ?_|refine gS ?_);simp only[go_sem,hxy])|refine gA ?_|(refine gD (fun h=>?_) (fun h=>?_)<;>try exact aB h)|fail
    exact⟨k,h1,rfl⟩
  ·have hli:decide ((k:Int)≤((b-1:Nat):Int))=false:=decide_eq_false (by omega)
   simp only[decide_eq_false hij,Bool.false_and,Bool.false_eq_true,if_false]at h1
   repeat' first|((first|refine mx [1,8,10,18,21] bG ?_|refine gS ?_);simp only[go_sem,hli])|refine gA ?_|(refine gD (fun h=>?_) (fun h=>?_)<;>try exact aB h)|fail
   exact⟨k,h1,rfl⟩
 rintro i1 hi1
 simp only[←hi1]at hR q1
 have q2:=Sort.scanDown_le (fun x=> !lt x E0[a]!) E0 i1 (b-1)
 repeat' first|(refine gS ?_;simp only[go_sem])|refine gA ?_|(refine gD (fun h=>?_) (fun h=>?_)<;>try exact aB h)|fail
 refine hQ (ι:=Nat) (fun k=>[(0,.osl 1 blk v 0 n lc),(1,.int .i64 a),(4,.func fn fs cs),(10,.int .i64 0),(11,.bool false),(12,.int .i64 (i1:Nat)),(13,.int .i64 k)]) (fun _=>aD H blk (.cells v (dC E0))) (fun k=>k=Sort.scanDown (fun x=> !lt x E0[a]!) E0 (i1) (b-1)) ?_ ?_
 ·refine aR (ι:=Nat) (fun k=>[(0,.osl 1 blk v 0 n lc),(1,.int .i64 a),(4,.func fn fs cs),(10,.int .i64 0),(11,.bool false),(12,.int .i64 (i1:Nat)),(13,.int .i64 k)]) (fun _=>aD H blk (.cells v (dC E0))) (fun k=>Sort.scanDown (fun x=> !lt x E0[a]!) E0 (i1) k=Sort.scanDown (fun x=> !lt x E0[a]!) E0 (i1) (b-1)∧k≤b-1) (fun k=>k) (b-1) ⟨rfl,Nat.le_refl _⟩ ?_ rfl ?_
  ·simp[go_sem]
  rintro k ⟨h1,h2⟩
  by_cases hij:i1≤k
  ·have hli:decide (((i1:Nat):Int)≤(k:Int))=true:=decide_eq_true (by omega)
   obtain⟨m,rfl⟩:∃m,k=m+1:=⟨k-1,by omega⟩
   rw[Sort.scanDown]at h1
   have gi:=bE (d:=E0) (show m+1<E0.size by omega)
   have ga:=bE (d:=E0) (show a<E0.size by omega)
   have hw1:IntKind.i64.wrap (((m+1:Nat):Int)-1)=((m:Nat):Int):=aH (by omega) (by omega)
   repeat' first|((first|refine mx [1,8,10,18,21] bG ?_|refine gS ?_);simp only[go_sem,hli,hg,hs,gi,ga,Nat.mul_one,bO,hE0])|refine gA ?_|(refine gD (fun h=>?_) (fun h=>?_)<;>try exact aB h)|fail
   refine cE hf ?_
   simp only[go_sem,hc]
   cases hxy:lt E0[m+1]! E0[a]! with
   |false=>
    simp only[decide_eq_true hij,Bool.true_and,hxy,Bool.not_false,if_true]at h1
    repeat' first|((first|refine mx [1,8,10,18,21] bG ?_|refine gS ?_);simp only[go_sem,hxy,hw1])|refine gA ?_|(refine gD (fun h=>?_) (fun h=>?_)<;>try exact aB h)|fail
    exact⟨m,⟨h1,by omega⟩,Nat.lt_succ_self _,rfl⟩
   |true=>
    simp only[decide_eq_true hij,Bool.true_and,hxy,Bool.not_true,Bool.false_eq_true,if_false]at h1
    repeat' first|((first|refine mx [1,8,10,18,21] bG ?_|refine gS ?_);simp only[go_sem,hxy])|refine gA ?_|(refine gD (fun h=>?_) (fun h=>?_)<;>try exact aB h)|fail
    exact⟨m+1,h1,rfl⟩
  ·have hli:decide (((i1:Nat):Int)≤(k:Int))=false:=decide_eq_false (by omega)
   have e:Sort.scanDown (fun x=> !lt x E0[a]!) E0 (i1) k=k:=by
    cases k with
    |zero=>rfl
    |succ m=>rw[Sort.scanDown,if_neg (by rw[decide_eq_false hij];simp)]
   rw[e]at h1
   repeat' first|((first|refine mx [1,8,10,18,21] bG ?_|refine gS ?_);simp only[go_sem,hli])|refine gA ?_|(refine gD (fun h=>?_) (fun h=>?_)<;>try exact aB h)|fail
   exact⟨k,h1,rfl⟩
 rintro j1 hj1
 simp only[←hj1]at hR q2
 by_cases hgt:i1>j1
 ·have hli:decide ((j1:Int)<(i1:Int))=true:=decide_eq_true (by omega)
  rw[if_pos hgt]at hR
  have gi2:=bE (d:=E0) (show j1<E0.size by omega)
  have gj2:=bE (d:=E0) (show a<E0.size by omega)
  have hsw2:=eH (d:=E0) (show j1<E0.size by omega) (show a<E0.size by omega)
  have sl2:=hU E0 hE0 (show j1<n by omega)
  repeat' first|((first|refine mx [1,8,10,18,21] bG ?_|refine gS ?_);simp only[go_sem,hli,hg,hs,gi2,gj2,hsw2,sl2,Nat.mul_one,bO,hE0])|refine gA ?_|(refine gD (fun h=>?_) (fun h=>?_)<;>try exact aB h)|fail
  rw[←hR]
  exact fL (eV _ _ _) (by simp only[go_sem]) _ ⟨rfl,rfl⟩
 have hli:decide ((j1:Int)<(i1:Int))=false:=decide_eq_false (by omega)
 rw[if_neg hgt]at hR
 have gi3:=bE (d:=E0) (show i1<E0.size by omega)
 have gj3:=bE (d:=E0) (show j1<E0.size by omega)
 have hsw3:=eH (d:=E0) (show i1<E0.size by omega) (show j1<E0.size by omega)
 have sl3:=hU E0 hE0 (show i1<n by omega)
 have hw3:IntKind.i64.wrap ((i1:Int)+1)=((i1+1:Nat):Int):=aH (by omega) (by omega)
 have hw4:IntKind.i64.wrap ((j1:Int)-1)=((j1-1:Nat):Int):=aH (by omega) (by omega)
 have hE1:(Sort.swp E0 i1 j1).size=n:=by rw[cU];exact hE0
 repeat' first|((first|refine mx [1,8,10,18,21] bG ?_|refine gS ?_);simp only[go_sem,hli,hg,hs,gi3,gj3,hsw3,sl3,hw3,hw4,Nat.mul_one,bO,hE0])|refine gA ?_|(refine gD (fun h=>?_) (fun h=>?_)<;>try exact aB h)|fail
 generalize Sort.swp E0 i1 j1=E1 at *
 clear gi3 gj3 hsw3 sl3 gi gj hsw sl
 refine hQ (ι:=Nat×Array fC) (fun s=>[(0,.osl 1 blk v 0 n lc),(1,.int .i64 a),(4,.func fn fs cs),(10,.int .i64 0),(11,.bool false),(13,.int .i64 s.1)]) (fun s=>aD H blk (.cells v (dC s.2))) (fun s=>s=Sort.partLoop lt a (i1+1) (j1-1) E1∧s.2.size=n∧s.1<n) ?_ ?_
 ·refine aR (ι:=Nat×Nat×Array fC) (fun s=>[(0,.osl 1 blk v 0 n lc),(1,.int .i64 a),(4,.func fn fs cs),(10,.int .i64 0),(11,.bool false),(12,.int .i64 s.1),(13,.int .i64 s.2.1)]) (fun s=>aD H blk (.cells v (dC s.2.2)))
   (fun s=>Sort.partLoop lt a s.1 s.2.1 s.2.2=Sort.partLoop lt a (i1+1) (j1-1) E1∧s.2.2.size=n∧a<s.1∧s.1≤n+1∧s.2.1<n) (fun s=>s.2.1+1-s.1) (i1+1,j1-1,E1) ⟨rfl,hE1,by simp only;omega,by simp only;omega,by simp only;omega⟩ ?_ rfl ?_
  ·simp[go_sem]
  rintro⟨i,j,D⟩ ⟨w1,w2,w3,w4,w5⟩
  simp only at w1 w2 w3 w4 w5 ⊢
  rw[Sort.partLoop_eq]at w1
  have q3:=Sort.scanUp_ge (fun x=>lt x D[a]!) D j i
  repeat' first|(refine gS ?_;simp only[go_sem])|refine gA ?_|(refine gD (fun h=>?_) (fun h=>?_)<;>try exact aB h)|fail
  refine hQ (ι:=Nat) (fun k=>[(0,.osl 1 blk v 0 n lc),(1,.int .i64 a),(4,.func fn fs cs),(10,.int .i64 0),(11,.bool false),(12,.int .i64 k),(13,.int .i64 (j:Nat))]) (fun _=>aD H blk (.cells v (dC D))) (fun k=>k=Sort.scanUp (fun x=>lt x D[a]!) D (j) (i)) ?_ ?_
  ·refine aR (ι:=Nat) (fun k=>[(0,.osl 1 blk v 0 n lc),(1,.int .i64 a),(4,.func fn fs cs),(10,.int .i64 0),(11,.bool false),(12,.int .i64 k),(13,.int .i64 (j:Nat))]) (fun _=>aD H blk (.cells v (dC D))) (fun k=>Sort.scanUp (fun x=>lt x D[a]!) D (j) k=Sort.scanUp (fun x=>lt x D[a]!) D (j) (i)∧a<k∧k≤n+1) (fun k=>j+1-k) (i) ⟨rfl,by omega,by omega⟩ ?_ rfl ?_
   ·simp[go_sem]
   rintro k ⟨h1,h0,h2⟩
   rw[Sort.scanUp]at h1
   by_cases hij:k≤j
   ·have hli:decide ((k:Int)≤((j:Nat):Int))=true:=decide_eq_true (by omega)
    have gi:=bE (d:=D) (show k<D.size by omega)
    have ga:=bE (d:=D) (show a<D.size by omega)
    have hw1:IntKind.i64.wrap ((k:Int)+1)=((k+1:Nat):Int):=aH (by omega) (by omega)
    repeat' first|((first|refine mx [1,8,10,18,21] bG ?_|refine gS ?_);simp only[go_sem,hli,hg,hs,gi,ga,Nat.mul_one,bO,w2])|refine gA ?_|(refine gD (fun h=>?_) (fun h=>?_)<;>try exact aB h)|fail
    refine cE hf ?_
    simp only[go_sem,hc]
    cases hxy:lt D[k]! D[a]! with
    |true=>
     simp only[decide_eq_true hij,Bool.true_and,hxy,Bool.not_false,if_true]at h1
     repeat' first|((first|refine mx [1,8,10,18,21] bG ?_|refine gS ?_);simp only[go_sem,hxy,hw1])|refine gA ?_|(refine gD (fun h=>?_) (fun h=>?_)<;>try exact aB h)|fail
     exact⟨k+1,⟨h1,by omega,by omega⟩,by omega,rfl⟩
    |false=>
     simp only[decide_eq_true hij,Bool.true_and,hxy,Bool.not_true,Bool.false_eq_true,if_false]at h1
     repeat' first|((first|refine mx [1,8,10,18,21] bG ?_|refine gS ?_);simp only[go_sem,hxy])|refine gA ?_|(refine gD (fun h=>?_) (fun h=>?_)<;>try exact aB h)|fail
     exact⟨k,h1,rfl⟩
   ·have hli:decide ((k:Int)≤((j:Nat):Int))=false:=decide_eq_false (by omega)
    simp only[decide_eq_false hij,Bool.false_and,Bool.false_eq_true,if_false]at h1
    repeat' first|((first|refine mx [1,8,10,18,21] bG ?_|refine gS ?_);simp only[go_sem,hli])|refine gA ?_|(refine gD (fun h=>?_) (fun h=>?_)<;>try exact aB h)|fail
    exact⟨k,h1,rfl⟩
  rintro i2 hi2
  rw[←hi2]at w1 q3
  have q4:=Sort.scanDown_le (fun x=> !lt x D[a]!) D i2 j
  repeat' first|(refine gS ?_;simp only[go_sem])|refine gA ?_|(refine gD (fun h=>?_) (fun h=>?_)<;>try exact aB h)|fail
  refine hQ (ι:=Nat) (fun k=>[(0,.osl 1 blk v 0 n lc),(1,.int .i64 a),(4,.func fn fs cs),(10,.int .i64 0),(11,.bool false),(12,.int .i64 (i2:Nat)),(13,.int .i64 k)]) (fun _=>aD H blk (.cells v (dC D))) (fun k=>k=Sort.scanDown (fun x=> !lt x D[a]!) D (i2) (j)) ?_ ?_
  ·refine aR (ι:=Nat) (fun k=>[(0,.osl 1 blk v 0 n lc),(1,.int .i64 a),(4,.func fn fs cs),(10,.int .i64 0),(11,.bool false),(12,.int .i64 (i2:Nat)),(13,.int .i64 k)]) (fun _=>aD H blk (.cells v (dC D))) (fun k=>Sort.scanDown (fun x=> !lt x D[a]!) D (i2) k=Sort.scanDown (fun x=> !lt x D[a]!) D (i2) (j)∧k≤j) (fun k=>k) (j) ⟨rfl,Nat.le_refl _⟩ ?_ rfl ?_
   ·simp[go_sem]
   rintro k ⟨h1,h2⟩
   by_cases hij:i2≤k
   ·have hli:decide (((i2:Nat):Int)≤(k:Int))=true:=decide_eq_true (by omega)
    obtain⟨m,rfl⟩:∃m,k=m+1:=⟨k-1,by omega⟩
    rw[Sort.scanDown]at h1
    have gi:=bE (d:=D) (show m+1<D.size by omega)
    have ga:=bE (d:=D) (show a<D.size by omega)
    have hw1:IntKind.i64.wrap (((m+1:Nat):Int)-1)=((m:Nat):Int):=aH (by omega) (by omega)
    repeat' first|((first|refine mx [1,8,10,18,21] bG ?_|refine gS ?_);simp only[go_sem,hli,hg,hs,gi,ga,Nat.mul_one,bO,w2])|refine gA ?_|(refine gD (fun h=>?_) (fun h=>?_)<;>try exact aB h)|fail
    refine cE hf ?_
    simp only[go_sem,hc]
    cases hxy:lt D[m+1]! D[a]! with
    |false=>
     simp only[decide_eq_true hij,Bool.true_and,hxy,Bool.not_false,if_true]at h1
     repeat' first|((first|refine mx [1,8,10,18,21] bG ?_|refine gS ?_);simp only[go_sem,hxy,hw1])|refine gA ?_|(refine gD (fun h=>?_) (fun h=>?_)<;>try exact aB h)|fail
     exact⟨m,⟨h1,by omega⟩,Nat.lt_succ_self _,rfl⟩
    |true=>
     simp only[decide_eq_true hij,Bool.true_and,hxy,Bool.not_true,Bool.false_eq_true,if_false]at h1
     repeat' first|((first|refine mx [1,8,10,18,21] bG ?_|refine gS ?_);simp only[go_sem,hxy])|refine gA ?_|(refine gD (fun h=>?_) (fun h=>?_)<;>try exact aB h)|fail
     exact⟨m+1,h1,rfl⟩
   ·have hli:decide (((i2:Nat):Int)≤(k:Int))=false:=decide_eq_false (by omega)
    have e:Sort.scanDown (fun x=> !lt x D[a]!) D (i2) k=k:=by
     cases k with
     |zero=>rfl
     |succ m=>rw[Sort.scanDown,if_neg (by rw[decide_eq_false hij];simp)]
    rw[e]at h1
    repeat' first|((first|refine mx [1,8,10,18,21] bG ?_|refine gS ?_);simp only[go_sem,hli])|refine gA ?_|(refine gD (fun h=>?_) (fun h=>?_)<;>try exact aB h)|fail
    exact⟨k,h1,rfl⟩
  rintro j2 hj2
  rw[←hj2]at w1 q4
  by_cases hgt2:i2>j2
  ·have hli2:decide ((j2:Int)<(i2:Int))=true:=decide_eq_true (by omega)
   simp only[if_pos hgt2]at w1
   repeat' first|((first|refine mx [1,8,10,18,21] bG ?_|refine gS ?_);simp only[go_sem,hli2])|refine gA ?_|(refine gD (fun h=>?_) (fun h=>?_)<;>try exact aB h)|fail
   exact⟨(j2,D),⟨w1,w2,by simp only;omega⟩,rfl,rfl⟩
  ·have hli2:decide ((j2:Int)<(i2:Int))=false:=decide_eq_false (by omega)
   simp only[if_neg hgt2]at w1
   have gi:=bE (d:=D) (show i2<D.size by omega)
   have gj:=bE (d:=D) (show j2<D.size by omega)
   have hsw:=eH (d:=D) (show i2<D.size by omega) (show j2<D.size by omega)
   have sl:=hU D w2 (show i2<n by omega)
   have hw5:IntKind.i64.wrap ((i2:Int)+1)=((i2+1:Nat):Int):=aH (by omega) (by omega)
   have hw6:IntKind.i64.wrap ((j2:Int)-1)=((j2-1:Nat):Int):=aH (by omega) (by omega)
   repeat' first|((first|refine mx [1,8,10,18,21] bG ?_|refine gS ?_);simp only[go_sem,hli2,hg,hs,gi,gj,hsw,sl,hw5,hw6,Nat.mul_one,bO,w2])|refine gA ?_|(refine gD (fun h=>?_) (fun h=>?_)<;>try exact aB h)|fail
   exact⟨(i2+1,j2-1,Sort.swp D i2 j2),⟨w1,by simp only[cU];exact w2,by simp only;omega,by simp only;omega,by simp only;omega⟩,by simp only;omega,⟨rfl,rfl⟩,rfl⟩
 rintro⟨j,D⟩ ⟨w1,w2,w3⟩
 simp only at w2 w3 ⊢
 rw[←w1]at hR
 have gi:=bE (d:=D) (show j<D.size by omega)
 have gj:=bE (d:=D) (show a<D.size by omega)
 have hsw:=eH (d:=D) (show j<D.size by omega) (show a<D.size by omega)
 have sl:=hU D w2 (show j<n by omega)
 repeat' first|((first|refine mx [1,8,10,18,21] bG ?_|refine gS ?_);simp only[go_sem,hg,hs,gi,gj,hsw,sl,Nat.mul_one,bO,w2])|refine gA ?_|(refine gD (fun h=>?_) (fun h=>?_)<;>try exact aB h)|fail
 rw[←hR]
 exact fL (eV _ _ _) (by simp only[go_sem]) _ ⟨rfl,rfl⟩
end
end Go.Proofs.YthhdnjiodklmmaaGreatDoor
/- Sorting texts by a comparison: what is nearly in order. No condition but how long the slice is. -/
namespace Go.Proofs.YthhdnjiodklmmaaGreatDoor
open Go Go.Aw Go.Gw
set_option linter.unusedSimpArgs false
set_option linter.unusedVariables false
set_option maxRecDepth 20000
set_option maxHeartbeats 8000000
def bX:List Pl:=[.free,.free,.free,.free,.free,.free,.free,.free,.pure 0,.pure 0,.free,.free,.pure 0,.pure 0,.pure 0,.eff [false,false,true,false,false],.pure 0,.eff [false,false]]
attribute [go_sem] bX
section
variable {lt:fC→fC→Bool} {c:fC→fC→Int} {fn:Fn} {fs cs:List AV}
theorem aKp(hc:∀x y,decide (c x y<0)=lt x y)(hf:qU Tryz.prog (.func fn fs cs) c){d:Array fC}{a b n lc blk v:Nat}(hn:n=d.size)(hl:n≤1073741824)(hb:b≤n)(hab:a<b)(H:AHeap)(hh:hget H blk=.cells v (dC d)):
  ACalls Tryz.prog 221 [.osl 1 blk v 0 n lc,.int .i64 a,.int .i64 b,.func fn fs cs] H (fun r H'=>r=.bool (Sort.partialInsertionSort lt d a b).2∧H'=aD H blk (.cells v (dC (Sort.partialInsertionSort lt d a b).1))):=by
 refine bQ Tryz.func221 rfl (Nat.le_of_ble_eq_true rfl) ?_
 have hg:=fun b=>hS hh trivial b
 have hs:=fJ H blk
 have hw1:IntKind.i64.wrap ((a:Int)+1)=((a+1:Nat):Int):=aH (by omega) (by omega)
 unfold Sort.partialInsertionSort
 repeat' first|(refine gS ?_;simp only[go_sem,hw1])|refine gA ?_|(refine gD (fun h=>?_) (fun h=>?_)<;>try exact aB h)|fail
 refine aR (ι:=Nat×Nat×Array fC) (fun s=>[(0,.osl 1 blk v 0 n lc),(1,.int .i64 a),(2,.int .i64 b),(3,.func fn fs cs),(8,.bool false),(9,.int .i64 s.2.1),(10,.int .i64 ((5-s.1:Nat):Int))]) (fun s=>aD H blk (.cells v (dC s.2.2)))
  (fun s=>Sort.partialIns lt a b s.1 s.2.1 s.2.2=Sort.partialIns lt a b 5 (a+1) d∧s.2.2.size=n∧a<s.2.1∧s.2.1≤b∧s.1≤5) (fun s=>s.1) (5,a+1,d) ⟨rfl,hn.symm,by simp only;omega,by simp only;omega,Nat.le_refl _⟩ ?_ (kM hh trivial).symm ?_
 ·simp[go_sem]
 rintro⟨s,i0,E⟩ ⟨w1,h2,h3,h4,h5⟩
 simp only at w1 h2 h3 h4 h5 ⊢
 cases s with
 |zero=>
  have hli:decide (((5-0:Nat):Int)<5)=false:=rfl
  rw[Sort.partialIns]at w1
  rw[←w1]
  repeat' first|((first|refine mx [11,17,23] bX ?_|refine gS ?_);simp only[go_sem,hli])|refine gA ?_|(refine gD (fun h=>?_) (fun h=>?_)<;>try exact aB h)|fail
  exact fL (eV _ _ _) (.bool _) _ ⟨rfl,rfl⟩
 |succ s=>
 have hli:decide (((5-(s+1):Nat):Int)<5)=true:=decide_eq_true (by omega)
 have hwj:IntKind.i64.wrap (((5-(s+1):Nat):Int)+1)=((5-s:Nat):Int):=aH (by omega) (by omega)
 rw[Sort.partialIns]at w1
 repeat' first|((first|refine mx [11,17,23] bX ?_|refine gS ?_);simp only[go_sem,hli])|refine gA ?_|(refine gD (fun h=>?_) (fun h=>?_)<;>try exact aB h)|fail
 refine hQ (ι:=Nat) (fun k=>[(0,.osl 1 blk v 0 n lc),(1,.int .i64 a),(2,.int .i64 b),(3,.func fn fs cs),(8,.bool false),(9,.int .i64 k),(10,.int .i64 ((5-(s+1):Nat):Int))]) (fun _=>aD H blk (.cells v (dC E))) (fun k=>k=Sort.scanSorted lt E b i0∧a<k∧k≤b) ?_ ?_
 ·refine aR (ι:=Nat) (fun k=>[(0,.osl 1 blk v 0 n lc),(1,.int .i64 a),(2,.int .i64 b),(3,.func fn fs cs),(8,.bool false),(9,.int .i64 k),(10,.int .i64 ((5-(s+1):Nat):Int))]) (fun _=>aD H blk (.cells v (dC E))) (fun k=>Sort.scanSorted lt E b k=Sort.scanSorted lt E b i0∧a<k∧k≤b) (fun k=>b-k) i0 ⟨rfl,h3,h4⟩ ?_ rfl ?_
  ·simp[go_sem]
  rintro k ⟨k1,k2,k3⟩
  rw[Sort.scanSorted]at k1
  by_cases hk:k<b
  ·have hlk:decide ((k:Int)<(b:Int))=true:=decide_eq_true (by omega)
   have hw2:IntKind.i64.wrap ((k:Int)-1)=((k-1:Nat):Int):=aH (by omega) (by omega)
   have hw3:IntKind.i64.wrap ((k:Int)+1)=((k+1:Nat):Int):=aH (by omega) (by omega)
   have gi:=bE (d:=E) (show k<E.size by omega)
   have gj:=bE (d:=E) (show(k-1)<E.size by omega)
   have hsw:=eH (d:=E) (show k<E.size by omega) (show(k-1)<E.size by omega)
   repeat' first|((first|refine mx [11,17,23] bX ?_|refine gS ?_);simp only[go_sem,hlk,hg,hs,gi,gj,hw2,Nat.mul_one,bO,h2])|refine gA ?_|(refine gD (fun h=>?_) (fun h=>?_)<;>try exact aB h)|fail
   refine cE hf ?_
   simp only[go_sem,hc]
   cases hxy:lt E[k]! E[k-1]! with
   |false=>
    simp only[decide_eq_true hk,Bool.true_and,hxy,Bool.not_false,if_true]at k1
    repeat' first|((first|refine mx [11,17,23] bX ?_|refine gS ?_);simp only[go_sem,hxy,hw3])|refine gA ?_|(refine gD (fun h=>?_) (fun h=>?_)<;>try exact aB h)|fail
    exact⟨k+1,⟨k1,by omega,by omega⟩,by omega,rfl⟩
   |true=>
    simp only[decide_eq_true hk,Bool.true_and,hxy,Bool.not_true,Bool.false_eq_true,if_false]at k1
    repeat' first|((first|refine mx [11,17,23] bX ?_|refine gS ?_);simp only[go_sem,hxy])|refine gA ?_|(refine gD (fun h=>?_) (fun h=>?_)<;>try exact aB h)|fail
    exact⟨k,⟨k1,k2,k3⟩,rfl⟩
  ·have hlk:decide ((k:Int)<(b:Int))=false:=decide_eq_false (by omega)
   simp only[decide_eq_false hk,Bool.false_and,Bool.false_eq_true,if_false]at k1
   repeat' first|((first|refine mx [11,17,23] bX ?_|refine gS ?_);simp only[go_sem,hlk])|refine gA ?_|(refine gD (fun h=>?_) (fun h=>?_)<;>try exact aB h)|fail
   exact⟨k,⟨k1,k2,k3⟩,rfl⟩
 clear h3 h4
 rintro i ⟨hi,h3,h4⟩
 simp only[←hi]at w1
 clear hi
 by_cases c0:i=b
 ·subst c0
  rw[if_pos rfl]at w1
  have hli0:decide ((i:Int)=(i:Int))=true:=decide_eq_true rfl
  repeat' first|((first|refine mx [11,17,23] bX ?_|refine gS ?_);simp only[go_sem,hli0])|refine gA ?_|(refine gD (fun h=>?_) (fun h=>?_)<;>try exact aB h)|fail
  rw[←w1]
  exact fL (eV _ _ _) (.bool _) _ ⟨rfl,rfl⟩
 have hli0:decide ((i:Int)=(b:Int))=false:=decide_eq_false (by omega)
 rw[if_neg c0]at w1
 have hw2:IntKind.i64.wrap ((b:Int)-(a:Int))=((b-a:Nat):Int):=aH (by omega) (by omega)
 have hwi:IntKind.i64.wrap ((i:Int)-(a:Int))=((i-a:Nat):Int):=aH (by omega) (by omega)
 have hwi1:IntKind.i64.wrap ((i:Int)-1)=((i-1:Nat):Int):=aH (by omega) (by omega)
 have hw3:IntKind.i64.wrap ((b:Int)-(i:Int))=((b-i:Nat):Int):=aH (by omega) (by omega)
 have hw4:IntKind.i64.wrap ((i:Int)+1)=((i+1:Nat):Int):=aH (by omega) (by omega)
 by_cases c1:b-a<50
 ·rw[if_pos c1]at w1
  have hli1:decide (((b-a:Nat):Int)<50)=true:=decide_eq_true (by omega)
  repeat' first|((first|refine mx [11,17,23] bX ?_|refine gS ?_);simp only[go_sem,hli0,hw2,hli1])|refine gA ?_|(refine gD (fun h=>?_) (fun h=>?_)<;>try exact aB h)|fail
  rw[←w1]
  exact fL (eV _ _ _) (.bool _) _ ⟨rfl,rfl⟩
 have hli1:decide (((b-a:Nat):Int)<50)=false:=decide_eq_false (by omega)
 rw[if_neg c1]at w1
 have gi:=bE (d:=E) (show i<E.size by omega)
 have gj:=bE (d:=E) (show(i-1)<E.size by omega)
 have hsw:=eH (d:=E) (show i<E.size by omega) (show(i-1)<E.size by omega)
 have sl:=hU E h2 (show i<n by omega)
 have hE1:(Sort.swp E i (i-1)).size=n:=by rw[cU];exact h2
 by_cases c3:i-a≥2
 ·have hli3:decide (2≤((i-a:Nat):Int))=true:=decide_eq_true (by omega)
  simp only[if_pos c3]at w1
  repeat' first|((first|refine mx [11,17,23] bX ?_|refine gS ?_);simp only[go_sem,hli0,hw2,hli1,hg,hs,gi,gj,hsw,sl,hwi,hwi1,hli3,Nat.mul_one,bO,h2])|refine gA ?_|(refine gD (fun h=>?_) (fun h=>?_)<;>try exact aB h)|fail
  generalize Sort.swp E i (i-1)=E1 at *
  refine hQ (ι:=Array fC) (fun _=>[(0,.osl 1 blk v 0 n lc),(1,.int .i64 a),(2,.int .i64 b),(3,.func fn fs cs),(8,.bool false),(9,.int .i64 i),(10,.int .i64 ((5-(s+1):Nat):Int))]) (fun X=>aD H blk (.cells v (dC X))) (fun X=>X=Sort.shiftDown lt (i-1) E1∧X.size=n) ?_ ?_
  ·refine aR (ι:=Nat×Array fC) (fun z=>[(0,.osl 1 blk v 0 n lc),(1,.int .i64 a),(2,.int .i64 b),(3,.func fn fs cs),(8,.bool false),(9,.int .i64 i),(10,.int .i64 ((5-(s+1):Nat):Int)),(11,.int .i64 z.1)]) (fun z=>aD H blk (.cells v (dC z.2))) (fun z=>Sort.shiftDown lt z.1 z.2=Sort.shiftDown lt (i-1) E1∧z.2.size=n∧z.1<n) (fun z=>z.1) (i-1,E1) ⟨rfl,hE1,by simp only;omega⟩ ?_ rfl ?_
   ·simp[go_sem]
   rintro⟨j,X⟩ ⟨k1,k2,k3⟩
   simp only at k1 k2 k3 ⊢
   cases j with
   |zero=>
    have hlj:decide (1≤((0:Nat):Int))=false:=rfl
    have hlj':decide ((1:Int)≤0)=false:=rfl
    rw[Sort.shiftDown]at k1
    repeat' first|((first|refine mx [11,17,23] bX ?_|refine gS ?_);simp only[go_sem,hlj,hlj'])|refine gA ?_|(refine gD (fun h=>?_) (fun h=>?_)<;>try exact aB h)|fail
    exact⟨X,⟨k1,k2⟩,rfl⟩
   |succ j=>
    have hlj:decide (1≤((j+1:Nat):Int))=true:=decide_eq_true (by omega)
    have hw5:IntKind.i64.wrap (((j+1:Nat):Int)-1)=((j:Nat):Int):=aH (by omega) (by omega)
    have gi8:=bE (d:=X) (show(j+1)<X.size by omega)
    have gj8:=bE (d:=X) (show j<X.size by omega)
    have hsw8:=eH (d:=X) (show(j+1)<X.size by omega) (show j<X.size by omega)
    have sl8:=hU X k2 (show j+1<n by omega)
    rw[Sort.shiftDown]at k1
    repeat' first|((first|refine mx [11,17,23] bX ?_|refine gS ?_);simp only[go_sem,hlj,hg,hs,gi8,gj8,hw5,Nat.mul_one,bO,k2])|refine gA ?_|(refine gD (fun h=>?_) (fun h=>?_)<;>try exact aB h)|fail
    refine cE hf ?_
    simp only[go_sem,hc]
    cases hxy:lt X[j+1]! X[j]! with
    |true=>
     rw[hxy,if_neg (by simp)]at k1
     repeat' first|((first|refine mx [11,17,23] bX ?_|refine gS ?_);simp only[go_sem,hxy,hg,hs,gi8,gj8,hsw8,sl8,hw5,Nat.mul_one,bO,k2])|refine gA ?_|(refine gD (fun h=>?_) (fun h=>?_)<;>try exact aB h)|fail
     exact⟨(j,Sort.swp X (j+1) j),⟨k1,by simp only[cU];exact k2,by simp only;omega⟩,Nat.lt_succ_self _,rfl,rfl⟩
    |false=>
     simp only[hxy,Bool.not_false,if_true]at k1
     repeat' first|((first|refine mx [11,17,23] bX ?_|refine gS ?_);simp only[go_sem,hxy])|refine gA ?_|(refine gD (fun h=>?_) (fun h=>?_)<;>try exact aB h)|fail
     exact⟨X,⟨k1,k2⟩,rfl⟩
  rintro E2 ⟨e2,hE2⟩
  rw[←e2]at w1
  by_cases c2:b-i≥2
  ·rw[if_pos c2]at w1
   have hli2:decide (2≤((b-i:Nat):Int))=true:=decide_eq_true (by omega)
   repeat' first|((first|refine mx [11,17,23] bX ?_|refine gS ?_);simp only[go_sem,hw3,hli2,hw4])|refine gA ?_|(refine gD (fun h=>?_) (fun h=>?_)<;>try exact aB h)|fail
   refine aR (ι:=Nat×Array fC) (fun z=>[(0,.osl 1 blk v 0 n lc),(1,.int .i64 a),(2,.int .i64 b),(3,.func fn fs cs),(8,.bool false),(9,.int .i64 i),(10,.int .i64 ((5-(s+1):Nat):Int)),(12,.int .i64 z.1)]) (fun z=>aD H blk (.cells v (dC z.2)))
    (fun z=>Sort.shiftUp lt b z.1 z.2=Sort.shiftUp lt b (i+1) E2∧z.2.size=n∧i<z.1) (fun z=>b-z.1) (i+1,E2) ⟨rfl,hE2,Nat.lt_succ_self _⟩ ?_ rfl ?_
   ·simp[go_sem]
   rintro⟨j,X⟩ ⟨k1,k2,k3⟩
   simp only at k1 k2 k3 ⊢
   rw[Sort.shiftUp]at k1
   by_cases hj:j<b
   ·rw[if_pos hj]at k1
    have hli3:decide ((j:Int)<(b:Int))=true:=decide_eq_true (by omega)
    have hw5:IntKind.i64.wrap ((j:Int)-1)=((j-1:Nat):Int):=aH (by omega) (by omega)
    have hw6:IntKind.i64.wrap ((j:Int)+1)=((j+1:Nat):Int):=aH (by omega) (by omega)
    have gi8:=bE (d:=X) (show j<X.size by omega)
    have gj8:=bE (d:=X) (show(j-1)<X.size by omega)
    have hsw8:=eH (d:=X) (show j<X.size by omega) (show(j-1)<X.size by omega)
    have sl8:=hU X k2 (show j<n by omega)
    repeat' first|((first|refine mx [11,17,23] bX ?_|refine gS ?_);simp only[go_sem,hli3,hg,hs,gi8,gj8,hw5,Nat.mul_one,bO,k2])|refine gA ?_|(refine gD (fun h=>?_) (fun h=>?_)<;>try exact aB h)|fail
    refine cE hf ?_
    simp only[go_sem,hc]
    cases hxy:lt X[j]! X[j-1]! with
    |true=>
     rw[hxy,if_neg (by simp)]at k1
     repeat' first|((first|refine mx [11,17,23] bX ?_|refine gS ?_);simp only[go_sem,hxy,hg,hs,gi8,gj8,hsw8,sl8,hw5,hw6,Nat.mul_one,bO,k2])|refine gA ?_|(refine gD (fun h=>?_) (fun h=>?_)<;>try exact aB h)|fail
     exact⟨(j+1,Sort.swp X j (j-1)),⟨k1,by simp only[cU];exact k2,by simp only;omega⟩,by simp only;omega,rfl,rfl⟩
    |false=>
     simp only[hxy,Bool.not_false,if_true]at k1
     rw[←k1]at w1
     repeat' first|((first|refine mx [11,17,23] bX ?_|refine gS ?_);simp only[go_sem,hxy,hwj])|refine gA ?_|(refine gD (fun h=>?_) (fun h=>?_)<;>try exact aB h)|fail
     exact⟨(s,i,X),⟨w1,k2,h3,h4,by simp only;omega⟩,Nat.lt_succ_self _,⟨rfl,rfl⟩,rfl⟩
   ·rw[if_neg hj]at k1
    rw[←k1]at w1
    have hli3:decide ((j:Int)<(b:Int))=false:=decide_eq_false (by omega)
    repeat' first|((first|refine mx [11,17,23] bX ?_|refine gS ?_);simp only[go_sem,hli3,hwj])|refine gA ?_|(refine gD (fun h=>?_) (fun h=>?_)<;>try exact aB h)|fail
    exact⟨(s,i,X),⟨w1,k2,h3,h4,by simp only;omega⟩,Nat.lt_succ_self _,⟨rfl,rfl⟩,rfl⟩
  ·rw[if_neg c2]at w1
   have hli2:decide (2≤((b-i:Nat):Int))=false:=decide_eq_false (by omega)
   have k2:=hE2
   repeat' first|((first|refine mx [11,17,23] bX ?_|refine gS ?_);simp only[go_sem,hw3,hli2,hwj])|refine gA ?_|(refine gD (fun h=>?_) (fun h=>?_)<;>try exact aB h)|fail
   exact⟨(s,i,E2),⟨w1,k2,h3,h4,by simp only;omega⟩,Nat.lt_succ_self _,⟨rfl,rfl⟩,rfl⟩
 ·have hli3:decide (2≤((i-a:Nat):Int))=false:=decide_eq_false (by omega)
  simp only[if_neg c3]at w1
  by_cases c2:b-i≥2
  ·rw[if_pos c2]at w1
   have hli2:decide (2≤((b-i:Nat):Int))=true:=decide_eq_true (by omega)
   repeat' first|((first|refine mx [11,17,23] bX ?_|refine gS ?_);simp only[go_sem,hli0,hw2,hli1,hg,hs,gi,gj,hsw,sl,hwi,hwi1,hli3,Nat.mul_one,bO,h2,hw3,hli2,hw4])|refine gA ?_|(refine gD (fun h=>?_) (fun h=>?_)<;>try exact aB h)|fail
   refine aR (ι:=Nat×Array fC) (fun z=>[(0,.osl 1 blk v 0 n lc),(1,.int .i64 a),(2,.int .i64 b),(3,.func fn fs cs),(8,.bool false),(9,.int .i64 i),(10,.int .i64 ((5-(s+1):Nat):Int)),(12,.int .i64 z.1)]) (fun z=>aD H blk (.cells v (dC z.2)))
    (fun z=>Sort.shiftUp lt b z.1 z.2=Sort.shiftUp lt b (i+1) (Sort.swp E i (i-1))∧z.2.size=n∧i<z.1) (fun z=>b-z.1) (i+1,(Sort.swp E i (i-1))) ⟨rfl,hE1,Nat.lt_succ_self _⟩ ?_ rfl ?_
   ·simp[go_sem]
   rintro⟨j,X⟩ ⟨k1,k2,k3⟩
   simp only at k1 k2 k3 ⊢
   rw[Sort.shiftUp]at k1
   by_cases hj:j<b
   ·rw[if_pos hj]at k1
    have hli3:decide ((j:Int)<(b:Int))=true:=decide_eq_true (by omega)
    have hw5:IntKind.i64.wrap ((j:Int)-1)=((j-1:Nat):Int):=aH (by omega) (by omega)
    have hw6:IntKind.i64.wrap ((j:Int)+1)=((j+1:Nat):Int):=aH (by omega) (by omega)
    have gi8:=bE (d:=X) (show j<X.size by omega)
    have gj8:=bE (d:=X) (show(j-1)<X.size by omega)
    have hsw8:=eH (d:=X) (show j<X.size by omega) (show(j-1)<X.size by omega)
    have sl8:=hU X k2 (show j<n by omega)
    repeat' first|((first|refine mx [11,17,23] bX ?_|refine gS ?_);simp only[go_sem,hli3,hg,hs,gi8,gj8,hw5,Nat.mul_one,bO,k2])|refine gA ?_|(refine gD (fun h=>?_) (fun h=>?_)<;>try exact aB h)|fail
    refine cE hf ?_
    simp only[go_sem,hc]
    cases hxy:lt X[j]! X[j-1]! with
    |true=>
     rw[hxy,if_neg (by simp)]at k1
     repeat' first|((first|refine mx [11,17,23] bX ?_|refine gS ?_);simp only[go_sem,hxy,hg,hs,gi8,gj8,hsw8,sl8,hw5,hw6,Nat.mul_one,bO,k2])|refine gA ?_|(refine gD (fun h=>?_) (fun h=>?_)<;>try exact aB h)|fail
     exact⟨(j+1,Sort.swp X j (j-1)),⟨k1,by simp only[cU];exact k2,by simp only;omega⟩,by simp only;omega,rfl,rfl⟩
    |false=>
     simp only[hxy,Bool.not_false,if_true]at k1
     rw[←k1]at w1
     repeat' first|((first|refine mx [11,17,23] bX ?_|refine gS ?_);simp only[go_sem,hxy,hwj])|refine gA ?_|(refine gD (fun h=>?_) (fun h=>?_)<;>try exact aB h)|fail
     exact⟨(s,i,X),⟨w1,k2,h3,h4,by simp only;omega⟩,Nat.lt_succ_self _,⟨rfl,rfl⟩,rfl⟩
   ·rw[if_neg hj]at k1
    rw[←k1]at w1
    have hli3:decide ((j:Int)<(b:Int))=false:=decide_eq_false (by omega)
    repeat' first|((first|refine mx [11,17,23] bX ?_|refine gS ?_);simp only[go_sem,hli3,hwj])|refine gA ?_|(refine gD (fun h=>?_) (fun h=>?_)<;>try exact aB h)|fail
    exact⟨(s,i,X),⟨w1,k2,h3,h4,by simp only;omega⟩,Nat.lt_succ_self _,⟨rfl,rfl⟩,rfl⟩
  ·exfalso;omega
end
end Go.Proofs.YthhdnjiodklmmaaGreatDoor
/- Sorting texts by a comparison: where the pivot is. No condition but how long the slice is. -/
namespace Go.Aw
theorem yS{H L:AHeap}{v:AV}(hp:Pur v)(R:AV→AHeap→Prop)(hR:R v H):
  ∃H1 M y,H++L=H1++M∧H1.length=H.length∧(∀(j:Nat) (c:ABlk),H1[j]?=some c→H[j]?=some c∨ClB H.length c)∧Frz H.length (H++L) v y∧R y H1:=
 ⟨H,L,v,rfl,rfl,fun _ _ h=>.inl h,.cl _ (hp.cl _),hR⟩
end Go.Aw
namespace Go.Proofs.YthhdnjiodklmmaaGreatDoor
open Go Go.Aw Go.Gw
set_option linter.unusedSimpArgs false
set_option linter.unusedVariables false
set_option maxRecDepth 20000
set_option maxHeartbeats 8000000
section
variable {lt:fC→fC→Bool} {c:fC→fC→Int} {fn:Fn} {fs cs:List AV}
def kC(s:Int):ABlk:=.cells 0 [.int .i64 s]
theorem aAj(n:Nat)(s:Int):ClB n (kC s):=fun x hx=>by simp at hx;subst hx;exact .int _ _
theorem aCM(hf:qU Tryz.prog (.func fn fs cs) c){d:Array fC}{a b n lc blk v i:Nat}{s:Int}(hn:n=d.size)(ha:a<n)(hb:b<n)(H:AHeap)(hh:hget H blk=.cells v (dC d))(hi:hget H i=kC s):
  ACalls Tryz.prog 248 [.osl 1 blk v 0 n lc,.int .i64 a,.int .i64 b,.ref i 0 0,.func fn fs cs] H
   (fun r H'=>∃(x y:Nat) (s':Int),(x=a∧y=b∨x=b∧y=a)∧r=.tup [.int .i64 x,.int .i64 y]∧H'=aD H i (kC s')):=by
 refine bQ Tryz.func248 rfl (Nat.le_of_ble_eq_true rfl) ?_
 have ga:=bE (d:=d) (show a<d.size by omega)
 have gb:=bE (d:=d) (show b<d.size by omega)
 unfold kC at hi
 repeat' first|(refine gS ?_;simp only[go_sem,hh,hi,ga,gb,Nat.mul_one,bO,←hn])|refine gA ?_|(refine gD (fun h=>?_) (fun h=>?_)<;>try exact aB h)|fail
 refine cE hf ?_
 simp only[go_sem]
 repeat' first|(refine gS ?_;simp only[go_sem,hh,hi])|refine gA ?_|(refine gD (fun h=>?_) (fun h=>?_)<;>try exact aB h)|fail
 ·exact fL (aAj _ _) (by simp only[go_sem]) _ ⟨b,a,_,.inr ⟨rfl,rfl⟩,rfl,rfl⟩
 ·have:=fL (H:=H) (i:=i) (v:=.tup [.int .i64 a,.int .i64 b]) (aAj _ s) (by simp only[go_sem]) (fun r H'=>∃(x y:Nat) (s':Int),(x=a∧y=b∨x=b∧y=a)∧r=.tup [.int .i64 x,.int .i64 y]∧H'=aD H i (kC s')) ⟨a,b,s,.inl ⟨rfl,rfl⟩,rfl,rfl⟩
  rw[show aD H i (kC s)=H from kM hi trivial]at this
  exact this
theorem aCN(hf:qU Tryz.prog (.func fn fs cs) c){d:Array fC}{a b e n lc blk v i:Nat}{s:Int}(hn:n=d.size)(ha:a<n)(hb:b<n)(he:e<n)(H:AHeap)(hh:hget H blk=.cells v (dC d))(hi:hget H i=kC s)(hne:i≠blk):
  ACalls Tryz.prog 242 [.osl 1 blk v 0 n lc,.int .i64 a,.int .i64 b,.int .i64 e,.ref i 0 0,.func fn fs cs] H
   (fun r H'=>∃(x:Nat) (s':Int),(x=a∨x=b∨x=e)∧r=.int .i64 x∧H'=aD H i (kC s')):=by
 refine bQ Tryz.func242 rfl (Nat.le_of_ble_eq_true rfl) ?_
 have g1:=fun b=>bH hh hne b
 have g2:=fun b=>hS hi trivial b
 have g3:=fJ H i
 repeat' first|(refine gS ?_;simp only[go_sem])|refine gA ?_|(refine gD (fun h=>?_) (fun h=>?_)<;>try exact aB h)|fail
 refine bJ (aCM hf hn ha hb _ hh hi) pF ?_
 rintro r H' ⟨x1,y1,s1,h1,rfl,rfl⟩
 simp only[go_sem]
 repeat' first|(refine gS ?_;simp only[go_sem])|refine gA ?_|(refine gD (fun h=>?_) (fun h=>?_)<;>try exact aB h)|fail
 refine bJ (aCM hf hn (a:=y1) (b:=e) (by omega) he _ (g1 _) (g2 _)) pF ?_
 rintro r H' ⟨x2,y2,s2,h2,rfl,rfl⟩
 simp only[go_sem,g3]
 repeat' first|(refine gS ?_;simp only[go_sem])|refine gA ?_|(refine gD (fun h=>?_) (fun h=>?_)<;>try exact aB h)|fail
 refine bJ (aCM hf hn (a:=x1) (b:=x2) (by omega) (by omega) _ (g1 _) (g2 _)) pF ?_
 rintro r H' ⟨x3,y3,s3,h3,rfl,rfl⟩
 simp only[go_sem,g3]
 repeat' first|(refine gS ?_;simp only[go_sem])|refine gA ?_|(refine gD (fun h=>?_) (fun h=>?_)<;>try exact aB h)|fail
 exact fL (aAj _ _) (.int _ _) _ ⟨y3,s3,by omega,rfl,rfl⟩
theorem aAk(hf:qU Tryz.prog (.func fn fs cs) c){d:Array fC}{a n lc blk v i:Nat}{s:Int}(hn:n=d.size)(hl:n≤1073741824)(ha:1≤a)(ha2:a+1<n)(H:AHeap)(hh:hget H blk=.cells v (dC d))(hi:hget H i=kC s)(hne:i≠blk):
  ACalls Tryz.prog 241 [.osl 1 blk v 0 n lc,.int .i64 a,.ref i 0 0,.func fn fs cs] H
   (fun r H'=>∃(x:Nat) (s':Int),(a≤x+1∧x≤a+1)∧r=.int .i64 x∧H'=aD H i (kC s')):=by
 refine bQ Tryz.func241 rfl (Nat.le_of_ble_eq_true rfl) ?_
 have hw1:IntKind.i64.wrap ((a:Int)-1)=((a-1:Nat):Int):=aH (by omega) (by omega)
 have hw2:IntKind.i64.wrap ((a:Int)+1)=((a+1:Nat):Int):=aH (by omega) (by omega)
 repeat' first|(refine gS ?_;simp only[go_sem,hw1,hw2])|refine gA ?_|(refine gD (fun h=>?_) (fun h=>?_)<;>try exact aB h)|fail
 refine bJ (aCN hf hn (a:=a-1) (b:=a) (e:=a+1) (by omega) (by omega) ha2 _ hh hi hne) pC ?_
 rintro r H' ⟨x,s',h,rfl,rfl⟩
 simp only[go_sem]
 repeat' first|(refine gS ?_;simp only[go_sem])|refine gA ?_|(refine gD (fun h=>?_) (fun h=>?_)<;>try exact aB h)|fail
 exact fL (aAj _ _) (.int _ _) _ ⟨x,s',by omega,rfl,rfl⟩
theorem aEy(hf:qU Tryz.prog (.func fn fs cs) c){d:Array fC}{a b n lc blk v:Nat}(hn:n=d.size)(hl:n≤1073741824)(hb:b≤n)(hab:a+12<b)(H:AHeap)(hh:hget H blk=.cells v (dC d)):
  ACalls Tryz.prog 219 [.osl 1 blk v 0 n lc,.int .i64 a,.int .i64 b,.func fn fs cs] H
   (fun r H'=>∃(p:Nat) (h:Int),(a≤p∧p<b)∧r=.tup [.int .i64 p,.int .i64 h]∧H'=H):=by
 refine bQ Tryz.func219 rfl (Nat.le_of_ble_eq_true rfl) ?_
 have hlt:=bP hh trivial
 obtain⟨m,rfl⟩:∃m,b=a+m:=⟨b-a,by omega⟩
 have hw0:IntKind.i64.wrap (((a+m:Nat):Int)-(a:Int))=(m:Int):=aH (by omega) (by omega)
 have hq:IntKind.i64.wrap ((m:Int).tdiv 4)=((m / 4:Nat):Int):=by rw[Int.tdiv_eq_ediv_of_nonneg (by omega)];exact aH (by omega) (by omega)
 obtain⟨q,hq2⟩:∃q,m / 4=q:=⟨_,rfl⟩
 rw[hq2]at hq
 have hq3:3 * q≤m-3∧m≤4 * q+3:=by omega
 have hw1:IntKind.i64.wrap ((q:Int) * 1)=(q:Int):=aH (by omega) (by omega)
 have hw2:IntKind.i64.wrap ((q:Int) * 2)=((q * 2:Nat):Int):=aH (by omega) (by omega)
 have hw3:IntKind.i64.wrap ((q:Int) * 3)=((q * 3:Nat):Int):=aH (by omega) (by omega)
 have hw4:IntKind.i64.wrap ((a:Int)+(q:Int))=((a+q:Nat):Int):=aH (by omega) (by omega)
 have hw5:IntKind.i64.wrap ((a:Int)+((q * 2:Nat):Int))=((a+q * 2:Nat):Int):=aH (by omega) (by omega)
 have hw6:IntKind.i64.wrap ((a:Int)+((q * 3:Nat):Int))=((a+q * 3:Nat):Int):=aH (by omega) (by omega)
 have hli8:decide (8≤(m:Int))=true:=decide_eq_true (by omega)
 have gH:∀s,hget (H++[kC s]) blk=.cells v (dC d):=fun s=>aK hh trivial _
 have gi:∀s,hget (H++[kC s]) H.length=kC s:=fun s=>iF H _
 have gs:∀s t,aD (H++[kC s]) H.length (kC t)=H++[kC t]:=fun s t=>by simp[aD]
 have hne:H.length≠blk:=by omega
 by_cases h50:50≤m
 ·have hli50:decide (50≤(m:Int))=true:=decide_eq_true (by omega)
  repeat' first|(refine gS ?_;simp only[go_sem,hw0,hq,hw1,hw2,hw3,hw4,hw5,hw6,hli8,hli50])|refine gA ?_|(refine gD (fun h=>?_) (fun h=>?_)<;>try exact aB h)|fail
  refine bJ (aAk hf hn hl (a:=a+q) (by omega) (by omega) (H++[kC 0]) (gH 0) (gi 0) hne) pB ?_
  rintro r H' ⟨x1,s1,h1,rfl,rfl⟩
  rw[gs]
  simp only[go_sem]
  repeat' first|(refine gS ?_;simp only[go_sem,hw0,hq,hw1,hw2,hw3,hw4,hw5,hw6,hli8,hli50])|refine gA ?_|(refine gD (fun h=>?_) (fun h=>?_)<;>try exact aB h)|fail
  refine bJ (aAk hf hn hl (a:=a+q * 2) (by omega) (by omega) (H++[kC s1]) (gH _) (gi _) hne) pB ?_
  rintro r H' ⟨x2,s2,h2,rfl,rfl⟩
  rw[gs]
  simp only[go_sem]
  repeat' first|(refine gS ?_;simp only[go_sem,hw0,hq,hw1,hw2,hw3,hw4,hw5,hw6,hli8,hli50])|refine gA ?_|(refine gD (fun h=>?_) (fun h=>?_)<;>try exact aB h)|fail
  refine bJ (aAk hf hn hl (a:=a+q * 3) (by omega) (by omega) (H++[kC s2]) (gH _) (gi _) hne) pB ?_
  rintro r H' ⟨x3,s3,h3,rfl,rfl⟩
  rw[gs]
  simp only[go_sem]
  repeat' first|(refine gS ?_;simp only[go_sem,hw0,hq,hw1,hw2,hw3,hw4,hw5,hw6,hli8,hli50])|refine gA ?_|(refine gD (fun h=>?_) (fun h=>?_)<;>try exact aB h)|fail
  refine bJ (aCN hf hn (a:=x1) (b:=x2) (e:=x3) (by omega) (by omega) (by omega) (H++[kC s3]) (gH _) (gi _) hne) pC ?_
  rintro r H' ⟨x,s,h,rfl,rfl⟩
  rw[gs]
  unfold kC
  simp only[go_sem]
  repeat' first|(refine gS ?_;simp only[go_sem])|refine gA ?_|(refine gD (fun h=>?_) (fun h=>?_)<;>try exact aB h)|fail
  all_goals exact yS (by simp only[go_sem]) _ ⟨x,_,by omega,rfl,rfl⟩
 ·have hli50:decide (50≤(m:Int))=false:=decide_eq_false (by omega)
  repeat' first|(refine gS ?_;simp only[go_sem,hw0,hq,hw1,hw2,hw3,hw4,hw5,hw6,hli8,hli50])|refine gA ?_|(refine gD (fun h=>?_) (fun h=>?_)<;>try exact aB h)|fail
  refine bJ (aCN hf hn (a:=a+q) (b:=a+q * 2) (e:=a+q * 3) (by omega) (by omega) (by omega) (H++[kC 0]) (gH _) (gi _) hne) pC ?_
  rintro r H' ⟨x,s,h,rfl,rfl⟩
  rw[gs]
  unfold kC
  simp only[go_sem]
  repeat' first|(refine gS ?_;simp only[go_sem])|refine gA ?_|(refine gD (fun h=>?_) (fun h=>?_)<;>try exact aB h)|fail
  all_goals exact yS (by simp only[go_sem]) _ ⟨x,_,by omega,rfl,rfl⟩
end
end Go.Proofs.YthhdnjiodklmmaaGreatDoor
/- Sorting texts by a comparison: patterns are broken. No condition but how long the slice is. -/
namespace Go.Aw
theorem aG1{H L:AHeap}{i:Nat}{b:ABlk}{v:AV}(hb:ClB H.length b)(hp:Pur v)(R:AV→AHeap→Prop)(hR:R v (aD H i b)):
  ∃H1 M y,aD H i b++L=H1++M∧H1.length=H.length∧(∀(j:Nat) (c:ABlk),H1[j]?=some c→H[j]?=some c∨ClB H.length c)∧Frz H.length (aD H i b++L) v y∧R y H1:=
 ⟨aD H i b,L,v,rfl,cH H i b,zS hb,.cl _ (hp.cl _),hR⟩
theorem yT{n:Nat}(h:n<18446744073709551616):IntKind.u64.wrap (n:Int)=(n:Int):=by
 simp[IntKind.wrap,IntKind.bits,IntKind.signed];omega
theorem aRo{x:Int}{y:Nat}(hy:y<18446744073709551616):∃n:Nat,dZ .and .u64 x (y:Int)=(n:Int)∧n≤y:=by
 refine⟨(BitVec.ofInt 64 x&&&BitVec.ofInt 64 (y:Int)).toNat,?_,?_⟩
 ·exact yT (BitVec.isLt _)
 ·rw[BitVec.toNat_and]
  refine Nat.le_trans Nat.and_le_right ?_
  simp
  omega
end Go.Aw
namespace Go.Proofs.YthhdnjiodklmmaaGreatDoor
open Go Go.Aw Go.Gw
set_option linter.unusedSimpArgs false
set_option linter.unusedVariables false
set_option maxRecDepth 20000
set_option maxHeartbeats 8000000
def aBm:List Pl:=[.free,.pure 0,.pure 0,.free,.pure 0,.pure 0,.free,.free,.pure 0,.eff [false,false,false,false,false]]
def wK:List Pl:=[.free,.free,.free,.free,.free,.free,.free,.free,.free,.free,.pure 0,.pure 0,.free,.free,.pure 0,.pure 0,.pure 0,.eff [false,false,true,false,false],.pure 0,.eff [false,false]]
attribute [go_sem] aBm wK
def bCj(T:List UInt8):Bool:=(List.range 256).all fun z=>decide ((T.getD z 0).toNat≤8)&&(decide (z=0)||decide (2 ^ (T.getD z 0).toNat≤2 * z))
theorem aKq{T:List UInt8}(h:bCj T=true){z:Nat}(hz:z<256):(T.getD z 0).toNat≤8∧(1≤z→2 ^ (T.getD z 0).toNat≤2 * z):=by
 have:=List.all_eq_true.1 h z (List.mem_range.2 hz)
 simp only[Bool.and_eq_true,Bool.or_eq_true,decide_eq_true_eq]at this
 exact⟨this.1,fun h1=>this.2.resolve_left (by omega)⟩
theorem uD{H:AHeap}{T:List UInt8}{z s x:Nat}(hT:bCj T=true)(hz:z<256)(hs:s≤24)(hx:2 ^ s * z≤x)(h1:1≤x→1≤z):
  ∃H1 L y,H=H1++L∧H1.length=H.length∧(∀(i:Nat) (b:ABlk),H1[i]?=some b→H[i]?=some b∨ClB H.length b)∧Frz H.length H (AV.int .i64 (IntKind.i64.wrap ((s:Int)+IntKind.i64.wrap (((T.getD z 0).toNat:Nat):Int)))) y∧
   ∃L:Nat,y=.int .i64 L∧L≤32∧(1≤x→2 ^ L≤2 * x)∧H1=H:=by
 obtain⟨t1,t2⟩:=aKq hT hz
 generalize(T.getD z 0).toNat=t at *
 refine⟨H,[],_,(List.append_nil _).symm,rfl,fun _ _ h=>.inl h,.cl _ (.int _ _),s+t,?_,by omega,fun hx1=>?_,rfl⟩
 ·rw[aH (n:=t) rfl (by omega),aH (n:=s+t) (by omega) (by omega)]
 ·have h2:=t2 (h1 hx1)
  calc 2 ^ (s+t)=2 ^ s * 2 ^ t:=Nat.pow_add ..
   _≤2 ^ s * (2 * z):=Nat.mul_le_mul_left _ h2
   _=2 * (2 ^ s * z):=by rw[Nat.mul_left_comm]
   _≤2 * x:=Nat.mul_le_mul_left _ hx
theorem aDv(x k:Nat):(x:Int).fdiv (2 ^ k)=((x / 2 ^ k:Nat):Int):=by
 rw[Int.fdiv_eq_ediv_of_nonneg _ (Int.pow_nonneg (by omega))]
 simp
theorem aKr(x:Nat)(hx:x≤1073741824)(H:AHeap):ACalls Tryz.prog 225 [.int .u64 x] H (fun r H'=>∃L:Nat,r=.int .i64 L∧L≤32∧(1≤x→2 ^ L≤2 * x)∧H'=H):=by
 refine bQ Tryz.func225 rfl (Nat.le_of_ble_eq_true rfl) ?_
 have hli:decide ((4294967296:Int)≤(x:Int))=false:=decide_eq_false (by omega)
 have s16:∀y:Nat,(y:Int).fdiv (2 ^ min 16 64)=((y / 65536:Nat):Int):=fun y=>aDv y 16
 have s8:∀y:Nat,(y:Int).fdiv (2 ^ min 8 64)=((y / 256:Nat):Int):=fun y=>aDv y 8
 have u8:∀y:Nat,y<256→IntKind.u8.wrap (y:Int)=(y:Int):=fun y hy=>by simp[IntKind.wrap,IntKind.bits,IntKind.signed];omega
 have w1:IntKind.i64.wrap (0+16)=((16:Nat):Int):=rfl
 have w2:IntKind.i64.wrap (((16:Nat):Int)+8)=((24:Nat):Int):=rfl
 have w3:IntKind.i64.wrap (0+8)=((8:Nat):Int):=rfl
 have w4:IntKind.i64.wrap (16+8)=((24:Nat):Int):=rfl
 by_cases h1:65536≤x
 ·have hli1:decide ((65536:Int)≤(x:Int))=true:=decide_eq_true (by omega)
  by_cases h2:256≤x / 65536
  ·have hli2:decide ((256:Int)≤((x / 65536:Nat):Int))=true:=decide_eq_true (by omega)
   have hu:=u8 (x / 65536 / 256) (by omega)
   repeat' first|(refine gS ?_;simp only[go_sem,hli,hli1,hli2,s16,s8,hu,w1,w2,w3,w4])|refine gA ?_|(refine gD (fun h=>?_) (fun h=>?_)<;>try exact aB h)|fail
   exact uD (s:=24) (z:=x / 65536 / 256) (by decide+kernel) (by omega) (by omega) (by omega) (by omega)
  ·have hli2:decide ((256:Int)≤((x / 65536:Nat):Int))=false:=decide_eq_false (by omega)
   have hu:=u8 (x / 65536) (by omega)
   repeat' first|(refine gS ?_;simp only[go_sem,hli,hli1,hli2,s16,s8,hu,w1,w2,w3,w4])|refine gA ?_|(refine gD (fun h=>?_) (fun h=>?_)<;>try exact aB h)|fail
   exact uD (s:=16) (z:=x / 65536) (by decide+kernel) (by omega) (by omega) (by omega) (by omega)
 ·have hli1:decide ((65536:Int)≤(x:Int))=false:=decide_eq_false (by omega)
  by_cases h2:256≤x
  ·have hli2:decide ((256:Int)≤(x:Int))=true:=decide_eq_true (by omega)
   have hu:=u8 (x / 256) (by omega)
   repeat' first|(refine gS ?_;simp only[go_sem,hli,hli1,hli2,s16,s8,hu,w1,w2,w3,w4])|refine gA ?_|(refine gD (fun h=>?_) (fun h=>?_)<;>try exact aB h)|fail
   exact uD (s:=8) (z:=x / 256) (by decide+kernel) (by omega) (by omega) (by omega) (by omega)
  ·have hli2:decide ((256:Int)≤(x:Int))=false:=decide_eq_false (by omega)
   have hu:=u8 x (by omega)
   repeat' first|(refine gS ?_;simp only[go_sem,hli,hli1,hli2,s16,s8,hu,w1,w2,w3,w4])|refine gA ?_|(refine gD (fun h=>?_) (fun h=>?_)<;>try exact aB h)|fail
   exact uD (s:=0) (z:=x) (by decide+kernel) (by omega) (by omega) (by omega) (by omega)
theorem aMh(x:Nat)(hx:x≤1073741824)(H:AHeap):ACalls Tryz.prog 199 [.int .u64 x] H (fun r H'=>∃L:Nat,r=.int .i64 L∧L≤32∧(1≤x→2 ^ L≤2 * x)∧H'=H):=by
 refine bQ Tryz.func199 rfl (Nat.le_of_ble_eq_true rfl) ?_
 repeat' first|(refine gS ?_;simp only[go_sem])|refine gA ?_|(refine gD (fun h=>?_) (fun h=>?_)<;>try exact aB h)|fail
 refine bJ (aKr x hx _) aCe ?_
 rintro r H' ⟨L,rfl,h1,h2,rfl⟩
 simp only[go_sem]
 repeat' first|(refine gS ?_;simp only[go_sem])|refine gA ?_|(refine gD (fun h=>?_) (fun h=>?_)<;>try exact aB h)|fail
 exact⟨_,[],_,(List.append_nil _).symm,rfl,fun _ _ h=>.inl h,.cl _ (.int _ _),L,rfl,h1,h2,rfl⟩
theorem aRp(x:Nat)(h1:1≤x)(hx:x≤1073741824)(H:AHeap):ACalls Tryz.prog 239 [.int .i64 x] H (fun r H'=>∃m:Nat,r=.int .u64 m∧1≤m∧m≤2 * x∧H'=H):=by
 refine bQ Tryz.func239 rfl (Nat.le_of_ble_eq_true rfl) ?_
 have hw:IntKind.u64.wrap (x:Int)=(x:Int):=yT (by omega)
 repeat' first|(refine gS ?_;simp only[go_sem,hw])|refine gA ?_|(refine gD (fun h=>?_) (fun h=>?_)<;>try exact aB h)|fail
 refine bJ (aMh x hx _) vG ?_
 rintro r H' ⟨L,rfl,h2,h3,rfl⟩
 have hp:=h3 h1
 have hp1:1≤2 ^ L:=Nat.one_le_two_pow
 have hw2:IntKind.u64.wrap (1 * 2 ^ min L 64)=((2 ^ L:Nat):Int):=by
  rw[Nat.min_eq_left (by omega),Int.one_mul]
  have:=yT (n:=2 ^ L) (by omega)
  simpa using this
 simp only[go_sem]
 repeat' first|(refine gS ?_;simp only[go_sem])|refine gA ?_|(refine gD (fun h=>?_) (fun h=>?_)<;>try exact aB h)|fail
 rw[hw2]
 exact⟨_,[],_,(List.append_nil _).symm,rfl,fun _ _ h=>.inl h,.cl _ (.int _ _),2 ^ L,rfl,hp1,hp,rfl⟩
def wL(s:Int):ABlk:=.cells 0 [.int .u64 s]
theorem aKs(n:Nat)(s:Int):ClB n (wL s):=fun x hx=>by simp at hx;subst hx;exact .int _ _
theorem bCk(x:Int)(i:Nat)(H:AHeap)(hi:hget H i=.cells 0 [.int .u64 x]):ACalls Tryz.prog 240 [.ref i 0 0] H (fun r H'=>∃y:Int,r=.int .u64 y∧H'=aD H i (.cells 0 [.int .u64 y])):=by
 refine bQ Tryz.func240 rfl (Nat.le_of_ble_eq_true rfl) ?_
 have g2:=fun b=>hS hi trivial b
 have g3:=fJ H i
 repeat' first|((first|refine mx [1,2,3] aBm ?_|refine gS ?_);simp only[go_sem,hi,g2,g3])|refine gA ?_|(refine gD (fun h=>?_) (fun h=>?_)<;>try exact aB h)|fail
 exact fL (aKs _ _) (.int _ _) _ ⟨_,rfl,rfl⟩
theorem aG2{d:Array fC}{a b n lc blk v:Nat}(hn:n=d.size)(hl:n≤1073741824)(hb:b≤n)(hab:a+12<b)(F:AV)(H:AHeap)(hh:hget H blk=.cells v (dC d)):
  ACalls Tryz.prog 218 [.osl 1 blk v 0 n lc,.int .i64 a,.int .i64 b,F] H
   (fun r H'=>∃d',Sort.PermIn a b d d'∧r=.tup []∧H'=aD H blk (.cells v (dC d'))):=by
 refine bQ Tryz.func218 rfl (Nat.le_of_ble_eq_true rfl) ?_
 have hlt:=bP hh trivial
 obtain⟨m,rfl⟩:∃m,b=a+m:=⟨b-a,by omega⟩
 have hw0:IntKind.i64.wrap (((a+m:Nat):Int)-(a:Int))=(m:Int):=aH (by omega) (by omega)
 have hli8:decide (8≤(m:Int))=true:=decide_eq_true (by omega)
 have hwu:IntKind.u64.wrap (m:Int)=(m:Int):=yT (by omega)
 have hq:IntKind.i64.wrap ((m:Int).tdiv 4)=((m / 4:Nat):Int):=by rw[Int.tdiv_eq_ediv_of_nonneg (by omega)];exact aH (by omega) (by omega)
 obtain⟨q,hq2⟩:∃q,m / 4=q:=⟨_,rfl⟩
 rw[hq2]at hq
 have hq3:3≤q∧4 * q≤m∧m≤4 * q+3:=by omega
 have hw2:IntKind.i64.wrap ((q:Int) * 2)=((q * 2:Nat):Int):=aH (by omega) (by omega)
 have hw5:IntKind.i64.wrap ((a:Int)+((q * 2:Nat):Int))=((a+q * 2:Nat):Int):=aH (by omega) (by omega)
 have hw6:IntKind.i64.wrap (((a+q * 2:Nat):Int)-1)=((a+q * 2-1:Nat):Int):=aH (by omega) (by omega)
 have hw7:IntKind.i64.wrap (((a+q * 2:Nat):Int)+1)=((a+q * 2+1:Nat):Int):=aH (by omega) (by omega)
 have hl0:∀X,(aD H blk X).length=H.length:=fun X=>cH H blk X
 have f1:∀cs s,hget (aD H blk (.cells v cs)++[wL s]) blk=.cells v cs:=fun cs s=>aK (b:=.cells v cs) (hS hh trivial _) trivial _
 have f2:∀X s,hget (aD H blk X++[wL s]) H.length=wL s:=fun X s=>by rw[←hl0 X];exact iF _ _
 have f3:∀X Y s,aD (aD H blk X++[wL s]) blk Y=aD H blk Y++[wL s]:=fun X Y s=>by
  rw[cG (by rw[hl0];exact hlt),fJ]
 have f4:∀X s t,aD (aD H blk X++[wL s]) H.length (wL t)=aD H blk X++[wL t]:=fun X s t=>by
  rw[←hl0 X];simp[aD]
 repeat' first|(refine gS ?_;simp only[go_sem,hw0,hli8,hwu])|refine gA ?_|(refine gD (fun h=>?_) (fun h=>?_)<;>try exact aB h)|fail
 refine bJ (aRp m (by omega) (by omega) _) aCi ?_
 rintro r H' ⟨M,rfl,hM1,hM2,rfl⟩
 simp only[go_sem]
 have hwM:IntKind.u64.wrap ((M:Int)-1)=((M-1:Nat):Int):=by rw[show(M:Int)-1=((M-1:Nat):Int)by omega];exact yT (by omega)
 repeat' first|(refine gS ?_;simp only[go_sem,hq,hw2,hw5,hw6])|refine gA ?_|(refine gD (fun h=>?_) (fun h=>?_)<;>try exact aB h)|fail
 refine aR (ι:=Nat×Int×Array fC) (fun s=>[(0,.osl 1 blk v 0 n lc),(1,.int .i64 a),(8,.int .i64 m),(9,.ref H.length 0 0),(10,.int .u64 M),(11,.int .i64 s.1)]) (fun s=>aD H blk (.cells v (dC s.2.2))++[wL s.2.1])
  (fun s=>a+q * 2-1≤s.1∧s.1≤a+q * 2+2∧s.2.2.size=n∧Sort.PermIn a (a+m) d s.2.2) (fun s=>a+q * 2+2-s.1) (a+q * 2-1,(m:Int),d) ⟨Nat.le_refl _,by simp only;omega,hn.symm,Sort.permIn_refl _ _ _⟩ ?_ (by rw[kM hh trivial];rfl) ?_
 ·simp[go_sem]
 rintro⟨k,x,E⟩ ⟨h1,h2,h3,h4⟩
 simp only at h1 h2 h3 h4 ⊢
 by_cases hk:k≤a+q * 2+1
 ·have hli:decide ((k:Int)≤((a+q * 2+1:Nat):Int))=true:=decide_eq_true (by omega)
  repeat' first|(refine gS ?_;simp only[go_sem,hq,hw2,hw5,hw7,hli])|refine gA ?_|(refine gD (fun h=>?_) (fun h=>?_)<;>try exact aB h)|fail
  refine bJ (bCk x H.length _ (f2 _ x)) aCj ?_
  rintro r H' ⟨y,rfl,rfl⟩
  rw[show(ABlk.cells 0 [AV.int .u64 y])=wL y from rfl,f4]
  simp only[go_sem]
  obtain⟨o,ho1,ho2⟩:=aRo (x:=y) (y:=M-1) (by omega)
  have hwo:IntKind.i64.wrap (o:Int)=(o:Int):=aH rfl (by omega)
  have hk1:IntKind.i64.wrap ((k:Int)+1)=((k+1:Nat):Int):=aH (by omega) (by omega)
  have step:∀z,z<m→Sort.PermIn a (a+m) d (Sort.swp E k (a+z)):=fun z hz=>Sort.permIn_trans _ _ _ _ _ h4 (Sort.swp_permIn _ _ _ _ _ (by omega) (by omega) (by omega) (by omega) (by omega))
  have ek:=bE (d:=E) (show k<E.size by omega)
  by_cases hom:m≤o
  ·have hli2:decide ((m:Int)≤(o:Int))=true:=decide_eq_true (by omega)
   have hwz:IntKind.i64.wrap ((o:Int)-(m:Int))=((o-m:Nat):Int):=aH (by omega) (by omega)
   have hwy:IntKind.i64.wrap ((a:Int)+((o-m:Nat):Int))=((a+(o-m):Nat):Int):=aH (by omega) (by omega)
   have ez:=bE (d:=E) (show a+(o-m)<E.size by omega)
   have hsw:=eH (d:=E) (show k<E.size by omega) (show a+(o-m)<E.size by omega)
   have sl:=hU E h3 (show k<n by omega)
   repeat' first|((first|refine mx [10] wK ?_|refine gS ?_);simp only[go_sem,hwM,ho1,hwo,hli2,hwz,hwy,f1,f3,ek,ez,hsw,sl,hk1,Nat.mul_one,bO,h3])|refine gA ?_|(refine gD (fun h=>?_) (fun h=>?_)<;>try exact aB h)|fail
   exact⟨(k+1,y,Sort.swp E k (a+(o-m))),⟨by simp only;omega,by simp only;omega,by simp only[cU];exact h3,step _ (by omega)⟩,by simp only;omega,rfl,rfl⟩
  ·have hli2:decide ((m:Int)≤(o:Int))=false:=decide_eq_false (by omega)
   have hwy:IntKind.i64.wrap ((a:Int)+(o:Int))=((a+o:Nat):Int):=aH (by omega) (by omega)
   have ez:=bE (d:=E) (show a+o<E.size by omega)
   have hsw:=eH (d:=E) (show k<E.size by omega) (show a+o<E.size by omega)
   have sl:=hU E h3 (show k<n by omega)
   repeat' first|((first|refine mx [10] wK ?_|refine gS ?_);simp only[go_sem,hwM,ho1,hwo,hli2,hwy,f1,f3,ek,ez,hsw,sl,hk1,Nat.mul_one,bO,h3])|refine gA ?_|(refine gD (fun h=>?_) (fun h=>?_)<;>try exact aB h)|fail
   exact⟨(k+1,y,Sort.swp E k (a+o)),⟨by simp only;omega,by simp only;omega,by simp only[cU];exact h3,step _ (by omega)⟩,by simp only;omega,rfl,rfl⟩
 ·have hli:decide ((k:Int)≤((a+q * 2+1:Nat):Int))=false:=decide_eq_false (by omega)
  repeat' first|(refine gS ?_;simp only[go_sem,hq,hw2,hw5,hw7,hli])|refine gA ?_|(refine gD (fun h=>?_) (fun h=>?_)<;>try exact aB h)|fail
  exact aG1 (eV _ _ _) (by simp only[go_sem]) _ ⟨E,h4,rfl,rfl⟩
end Go.Proofs.YthhdnjiodklmmaaGreatDoor
/- Sorting texts by a comparison: the whole. No condition but how long the slice is. -/
namespace Go.Proofs.YthhdnjiodklmmaaGreatDoor
open Go Go.Aw Go.Gw
set_option linter.unusedSimpArgs false
set_option linter.unusedVariables false
set_option maxRecDepth 20000
set_option maxHeartbeats 8000000
section
variable {lt:fC→fC→Bool} {c:fC→fC→Int} {fn:Fn} {fs cs:List AV}
theorem aRq(hw:Sort.SWO lt)(hc:∀x y,decide (c x y<0)=lt x y)(hf:qU Tryz.prog (.func fn fs cs) c):∀(k:Nat) {d:Array fC} {a b n lc blk v:Nat} {lim:Int},b-a≤k→n=d.size→n≤1073741824→b≤n→a≤b→(0≤lim∧lim≤1073741824)→Sort.Below lt a b d→
  ∀(H:AHeap),hget H blk=.cells v (dC d)→ACalls Tryz.prog 198 [.osl 1 blk v 0 n lc,.int .i64 a,.int .i64 b,.int .i64 lim,.func fn fs cs] H
   (fun r H'=>∃d',Sort.PermIn a b d d'∧Sort.SortedIn lt a b d'∧r=.tup []∧H'=aD H blk (.cells v (dC d'))):=by
 intro k
 induction k with
 |zero=>
  intro d a b n lc blk v lim hk hn hl hb hab hlim hB H hh
  refine bQ Tryz.func198 rfl (Nat.le_of_ble_eq_true rfl) ?_
  have hw0:IntKind.i64.wrap ((b:Int)-(a:Int))=((b-a:Nat):Int):=aH (by omega) (by omega)
  have hli:decide (((b-a:Nat):Int)≤12)=true:=decide_eq_true (by omega)
  repeat' first|(refine gS ?_;simp only[go_sem])|refine gA ?_|(refine gD (fun h=>?_) (fun h=>?_)<;>try exact aB h)|fail
  refine aR (ι:=Unit) (fun _=>[(0,.osl 1 blk v 0 n lc),(1,.int .i64 a),(2,.int .i64 b),(3,.int .i64 lim),(4,.func fn fs cs)]) (fun _=>H) (fun _=>True) (fun _=>0) () trivial ?_ rfl ?_
  ·simp[go_sem]
  rintro _ _
  repeat' first|(refine gS ?_;simp only[go_sem,hw0,hli])|refine gA ?_|(refine gD (fun h=>?_) (fun h=>?_)<;>try exact aB h)|fail
  refine bJ (aG0 hc hf hn hl hb hab H hh) vI ?_
  rintro r H' ⟨rfl,rfl⟩
  simp only[go_sem]
  repeat' first|(refine gS ?_;simp only[go_sem])|refine gA ?_|(refine gD (fun h=>?_) (fun h=>?_)<;>try exact aB h)|fail
  obtain⟨s1,s2⟩:=Sort.insertionSort_holds hw d a b hab (by omega)
  exact fY (eV _ _ _) _ ⟨_,s1,s2,rfl,rfl⟩
 |succ k ih=>
  intro d a0 b0 n lc blk v lim0 hk hn hl hb0 hab0 hlim0 hB0 H hh
  refine bQ Tryz.func198 rfl (Nat.le_of_ble_eq_true rfl) ?_
  have hg:=fun b=>hS hh trivial b
  have hs:=fJ H blk
  repeat' first|(refine gS ?_;simp only[go_sem])|refine gA ?_|(refine gD (fun h=>?_) (fun h=>?_)<;>try exact aB h)|fail
  refine aR (ι:=Nat×Nat×Int×Bool×Bool×Array fC) (fun s=>[(0,.osl 1 blk v 0 n lc),(1,.int .i64 s.1),(2,.int .i64 s.2.1),(3,.int .i64 s.2.2.1),(4,.func fn fs cs),(10,.bool s.2.2.2.1),(11,.bool s.2.2.2.2.1)]) (fun s=>aD H blk (.cells v (dC s.2.2.2.2.2)))
   (fun s=>(a0≤s.1∧s.1≤s.2.1∧s.2.1≤b0)∧s.2.2.2.2.2.size=n∧(0≤s.2.2.1∧s.2.2.1≤1073741824)∧Sort.Below lt s.1 s.2.1 s.2.2.2.2.2∧∀R,Sort.PermIn s.1 s.2.1 s.2.2.2.2.2 R→Sort.SortedIn lt s.1 s.2.1 R→Sort.PermIn a0 b0 d R∧Sort.SortedIn lt a0 b0 R)
   (fun s=>s.2.1-s.1) (a0,b0,lim0,true,true,d) ⟨⟨Nat.le_refl _,hab0,Nat.le_refl _⟩,hn.symm,hlim0,hB0,fun R h1 h2=>⟨h1,h2⟩⟩ ?_ (kM hh trivial).symm ?_
  ·simp[go_sem]
  rintro⟨a,b,lim,wb,wp,E⟩ ⟨⟨p1,p2,p3⟩,hE,hlim,hB,hfin⟩
  simp only at p1 p2 p3 hE hlim hB hfin ⊢
  have hw0:IntKind.i64.wrap ((b:Int)-(a:Int))=((b-a:Nat):Int):=aH (by omega) (by omega)
  by_cases c0:b-a≤12
  ·have hli:decide (((b-a:Nat):Int)≤12)=true:=decide_eq_true (by omega)
   repeat' first|(refine gS ?_;simp only[go_sem,hw0,hli])|refine gA ?_|(refine gD (fun h=>?_) (fun h=>?_)<;>try exact aB h)|fail
   refine bJ (aG0 hc hf hE.symm hl (by omega) p2 _ (hg _)) vI ?_
   rintro r H' ⟨rfl,rfl⟩
   simp only[go_sem,hs]
   repeat' first|(refine gS ?_;simp only[go_sem])|refine gA ?_|(refine gD (fun h=>?_) (fun h=>?_)<;>try exact aB h)|fail
   obtain⟨s1,s2⟩:=Sort.insertionSort_holds hw E a b p2 (by omega)
   obtain⟨t1,t2⟩:=hfin _ s1 s2
   exact fY (eV _ _ _) _ ⟨_,t1,t2,rfl,rfl⟩
  have hli:decide (((b-a:Nat):Int)≤12)=false:=decide_eq_false (by omega)
  by_cases c1:lim=0
  ·have hli1:decide (lim=0)=true:=decide_eq_true c1
   repeat' first|(refine gS ?_;simp only[go_sem,hw0,hli,hli1])|refine gA ?_|(refine gD (fun h=>?_) (fun h=>?_)<;>try exact aB h)|fail
   refine bJ (aKn hc hf hE.symm hl (by omega) (by omega) _ (hg _)) aB7 ?_
   rintro r H' ⟨rfl,rfl⟩
   simp only[go_sem,hs]
   repeat' first|(refine gS ?_;simp only[go_sem])|refine gA ?_|(refine gD (fun h=>?_) (fun h=>?_)<;>try exact aB h)|fail
   obtain⟨s1,s2⟩:=Sort.heapSort_holds hw E a b p2 (by omega)
   obtain⟨t1,t2⟩:=hfin _ s1 s2
   exact fY (eV _ _ _) _ ⟨_,t1,t2,rfl,rfl⟩
  have hli1:decide (lim=0)=false:=decide_eq_false c1
  repeat' first|(refine gS ?_;simp only[go_sem,hw0,hli,hli1])|refine gA ?_|fail
  refine qB rfl (fun h=>by cases h) (fun _=>?_)
  repeat' first|(refine gS ?_;simp only[go_sem,hw0,hli,hli1])|refine gA ?_|fail
  refine qB rfl (fun h=>by cases h) (fun _=>?_)
  repeat' first|(refine gS ?_;simp only[go_sem,hw0,hli,hli1])|refine gA ?_|fail
  refine zT (ι:=Int×Array fC) (fun s=>[(0,.osl 1 blk v 0 n lc),(1,.int .i64 a),(2,.int .i64 b),(4,.func fn fs cs),(10,.bool wb),(11,.bool wp),(12,.int .i64 (b-a:Nat)),(3,.int .i64 s.1)]) (fun s=>aD H blk (.cells v (dC s.2))) (fun s=>(0≤s.1∧s.1≤1073741824)∧Sort.PermIn a b E s.2) ?_ ?_
  ·cases wb with
   |true=>
    repeat' first|(refine gS ?_;simp only[go_sem])|refine gA ?_|(refine gD (fun h=>?_) (fun h=>?_)<;>try exact aB h)|fail
    exact⟨(lim,E),⟨hlim,Sort.permIn_refl _ _ _⟩,rfl,rfl⟩
   |false=>
    have hwl:IntKind.i64.wrap (lim-1)=lim-1:=wrap_i64 (by omega) (by omega)
    repeat' first|(refine gS ?_;simp only[go_sem])|refine gA ?_|(refine gD (fun h=>?_) (fun h=>?_)<;>try exact aB h)|fail
    refine bJ (aG2 hE.symm hl (by omega) (by omega) _ _ (hg _)) aB8 ?_
    rintro r H' ⟨E1,q1,rfl,rfl⟩
    simp only[go_sem,hs]
    repeat' first|(refine gS ?_;simp only[go_sem,hwl])|refine gA ?_|(refine gD (fun h=>?_) (fun h=>?_)<;>try exact aB h)|fail
    exact⟨(lim-1,E1),⟨⟨by simp only;omega,by simp only;omega⟩,q1⟩,rfl,rfl⟩
  clear hli1 c1 hlim
  rintro⟨lim,E1⟩ ⟨hlim,q1⟩
  simp only at hlim q1 ⊢
  have hE1:E1.size=n:=by rw[q1.1];exact hE
  repeat' first|(refine gS ?_;simp only[go_sem])|refine gA ?_|fail
  refine bJ (aEy hf hE1.symm hl (by omega) (by omega) _ (hg _)) aB9 ?_
  rintro r H' ⟨pv,hint,⟨v1,v2⟩,rfl,rfl⟩
  simp only[go_sem]
  repeat' first|(refine gS ?_;simp only[go_sem])|refine gA ?_|fail
  refine zT (ι:=Nat×Int×Array fC) (fun s=>[(0,.osl 1 blk v 0 n lc),(1,.int .i64 a),(2,.int .i64 b),(4,.func fn fs cs),(10,.bool wb),(11,.bool wp),(12,.int .i64 (b-a:Nat)),(3,.int .i64 lim),(13,.int .i64 s.1),(14,.int .i64 s.2.1)]) (fun s=>aD H blk (.cells v (dC s.2.2))) (fun s=>(a≤s.1∧s.1<b)∧Sort.PermIn a b E1 s.2.2) ?_ ?_
  ·have hw1:IntKind.i64.wrap ((b:Int)-1)=((b-1:Nat):Int):=aH (by omega) (by omega)
   have hw2:IntKind.i64.wrap ((pv:Int)-(a:Int))=((pv-a:Nat):Int):=aH (by omega) (by omega)
   have hw3:IntKind.i64.wrap (((b-1:Nat):Int)-((pv-a:Nat):Int))=((b-1-(pv-a):Nat):Int):=aH (by omega) (by omega)
   by_cases hh2:hint=2
   ·have hlh:decide (hint=2)=true:=decide_eq_true hh2
    repeat' first|(refine gS ?_;simp only[go_sem,hlh])|refine gA ?_|(refine gD (fun h=>?_) (fun h=>?_)<;>try exact aB h)|fail
    refine bJ (aRn hE1.symm hl (by omega) (by omega) _ _ (hg _)) aCa ?_
    rintro r H' ⟨rfl,rfl⟩
    simp only[go_sem,hs]
    repeat' first|(refine gS ?_;simp only[go_sem,hw1,hw2,hw3])|refine gA ?_|(refine gD (fun h=>?_) (fun h=>?_)<;>try exact aB h)|fail
    exact⟨(b-1-(pv-a),1,Sort.reverseRange E1 a b),⟨⟨by simp only;omega,by simp only;omega⟩,Sort.reverseRange_holds E1 a b p2 (by omega)⟩,⟨rfl,rfl⟩,rfl⟩
   ·have hlh:decide (hint=2)=false:=decide_eq_false hh2
    repeat' first|(refine gS ?_;simp only[go_sem,hlh])|refine gA ?_|(refine gD (fun h=>?_) (fun h=>?_)<;>try exact aB h)|fail
    exact⟨(pv,hint,E1),⟨⟨v1,v2⟩,Sort.permIn_refl _ _ _⟩,⟨rfl,rfl⟩,rfl⟩
  clear v1 v2
  rintro⟨pv,hint,E2⟩ ⟨⟨v1,v2⟩,q2⟩
  simp only at v1 v2 q2 ⊢
  have hE2:E2.size=n:=by rw[q2.1];exact hE1
  have q12:=Sort.permIn_trans _ _ _ _ _ q1 q2
  have hB2:=hB.perm (by omega) q12
  repeat' first|(refine gS ?_;simp only[go_sem])|refine gA ?_|fail
  refine zT (ι:=Array fC) (fun s=>[(0,.osl 1 blk v 0 n lc),(1,.int .i64 a),(2,.int .i64 b),(4,.func fn fs cs),(10,.bool wb),(11,.bool wp),(12,.int .i64 (b-a:Nat)),(3,.int .i64 lim),(13,.int .i64 pv)]) (fun s=>aD H blk (.cells v (dC s))) (fun s=>Sort.PermIn a b E2 s) ?_ ?_
  ·repeat' first|(refine gS ?_;simp only[go_sem])|refine gA ?_|(refine gD (fun h=>?_) (fun h=>?_)<;>try exact aB h)|fail
   ·refine bJ (aKp hc hf hE2.symm hl (by omega) (by omega) _ (hg _)) aCb ?_
    rintro r H' ⟨rfl,rfl⟩
    simp only[go_sem,hs]
    obtain⟨s1,s2⟩:=Sort.partialInsertionSort_holds hw E2 a b (by omega) (by omega) hB2
    repeat' first|(refine gS ?_;simp only[go_sem])|refine gA ?_|(refine gD (fun h=>?_) (fun h=>?_)<;>try exact aB h)|fail
    ·obtain⟨t1,t2⟩:=hfin _ (Sort.permIn_trans _ _ _ _ _ q12 s1) (s2 (by assumption))
     exact fY (eV _ _ _) _ ⟨_,t1,t2,rfl,rfl⟩
    ·exact⟨_,s1,rfl⟩
   ·exact⟨E2,Sort.permIn_refl _ _ _,rfl⟩
  rintro E3 q3
  have hE3:E3.size=n:=by rw[q3.1];exact hE2
  have q13:=Sort.permIn_trans _ _ _ _ _ q12 q3
  have hB3:=hB.perm (by omega) q13
  have gp:=bE (d:=E3) (show pv<E3.size by omega)
  refine zR (ι:=Unit) (fun _=>[(0,.osl 1 blk v 0 n lc),(1,.int .i64 a),(2,.int .i64 b),(3,.int .i64 lim),(4,.func fn fs cs),(10,.bool wb),(11,.bool wp),(12,.int .i64 (b-a:Nat)),(13,.int .i64 pv)]) (fun _=>aD H blk (.cells v (dC E3))) (fun _=>True) ?_ ?_
  ·by_cases ha:0<a
   ·have hla:decide ((0:Int)<(a:Int))=true:=decide_eq_true (by omega)
    have hw1:IntKind.i64.wrap ((a:Int)-1)=((a-1:Nat):Int):=aH (by omega) (by omega)
    have ga:=bE (d:=E3) (show a-1<E3.size by omega)
    repeat' first|(refine gS ?_;simp only[go_sem,hla,hw1,hg,hs,ga,gp,Nat.mul_one,bO,hE3])|refine gA ?_|(refine gD (fun h=>?_) (fun h=>?_)<;>try exact aB h)|fail
    refine cE hf ?_
    simp only[go_sem,hc]
    cases hxy:lt E3[a-1]! E3[pv]! with
    |true=>
     repeat' first|(refine gS ?_;simp only[go_sem,hxy])|refine gA ?_|(refine gD (fun h=>?_) (fun h=>?_)<;>try exact aB h)|fail
     exact⟨(),trivial⟩
    |false=>
     repeat' first|(refine gS ?_;simp only[go_sem,hxy])|refine gA ?_|(refine gD (fun h=>?_) (fun h=>?_)<;>try exact aB h)|fail
     refine bJ (aEx hc hf hE3.symm hl (by omega) v1 v2 _ (hg _)) aCc ?_
     rintro r H' ⟨rfl,rfl⟩
     simp only[go_sem,hs]
     obtain⟨⟨mid,E4⟩,hpe⟩:∃x,Sort.partitionEqual lt E3 a b pv=x:=⟨_,rfl⟩
     obtain⟨m1,m2,m3,m4,m5⟩:=Sort.round_eq hw (Sort.partitionEqual_holds lt) ha v1 v2 (by omega) hB3 hxy hpe
     rw[hpe]
     repeat' first|(refine gS ?_;simp only[go_sem])|refine gA ?_|(refine gD (fun h=>?_) (fun h=>?_)<;>try exact aB h)|fail
     exact⟨(mid,b,lim,wb,wp,E4),⟨⟨by simp only;omega,m2,p3⟩,by simp only;rw[m3];exact hE3,hlim,m4,fun R r1 r2=>by
      obtain⟨u1,u2⟩:=m5 R r1 r2
      exact hfin R (Sort.permIn_trans _ _ _ _ _ q13 u1) u2⟩,by simp only;omega,⟨rfl,rfl,rfl,rfl,rfl⟩,rfl⟩
   ·have hla:decide ((0:Int)<(a:Int))=false:=decide_eq_false (by omega)
    repeat' first|(refine gS ?_;simp only[go_sem,hla,hg,hs,gp,Nat.mul_one,bO,hE3])|refine gA ?_|(refine gD (fun h=>?_) (fun h=>?_)<;>try exact aB h)|fail
    exact⟨(),trivial⟩
  rintro _ _
  obtain⟨⟨mid,ap,E4⟩,hpt⟩:∃x,Sort.partition lt E3 a b pv=x:=⟨_,rfl⟩
  obtain⟨m1,m2,m3,m4,m5,m6,m7⟩:=Sort.round_part hw (Sort.partition_holds lt) v1 v2 (by omega) hB3 hpt
  have hE4:E4.size=n:=by rw[m3];exact hE3
  repeat' first|(refine gS ?_;simp only[go_sem])|refine gA ?_|(refine gD (fun h=>?_) (fun h=>?_)<;>try exact aB h)|fail
  refine bJ (aKo hc hf hE3.symm hl (by omega) v1 v2 _ (hg _)) aCd ?_
  rintro r H' ⟨rfl,rfl⟩
  simp only[go_sem,hs,hpt]
  have hw1:IntKind.i64.wrap ((mid:Int)-(a:Int))=((mid-a:Nat):Int):=aH (by omega) (by omega)
  have hw2:IntKind.i64.wrap ((b:Int)-(mid:Int))=((b-mid:Nat):Int):=aH (by omega) (by omega)
  have hw3:IntKind.i64.wrap ((mid:Int)+1)=((mid+1:Nat):Int):=aH (by omega) (by omega)
  by_cases hlr:mid-a<b-mid
  ·have hll:decide (((mid-a:Nat):Int)<((b-mid:Nat):Int))=true:=decide_eq_true (by omega)
   repeat' first|(refine gS ?_;simp only[go_sem,hw1,hw2,hll])|refine gA ?_|(refine gD (fun h=>?_) (fun h=>?_)<;>try exact aB h)|fail
   refine bJ (ih (d:=E4) (a:=a) (b:=mid) (by omega) hE4.symm hl (by omega) m1 hlim m4 _ (hg _)) oV ?_
   rintro r H' ⟨E5,x1,x2,rfl,rfl⟩
   obtain⟨y1,y2⟩:=m6 E5 x1 x2
   simp only[go_sem,hs]
   repeat' first|(refine gS ?_;simp only[go_sem,hw3])|refine gA ?_|(refine gD (fun h=>?_) (fun h=>?_)<;>try exact aB h)|fail
   exact⟨(mid+1,b,lim,_,ap,E5),⟨⟨by simp only;omega,by simp only;omega,p3⟩,by simp only;rw[x1.1];exact hE4,hlim,y1,fun R r1 r2=>by
    obtain⟨u1,u2⟩:=y2 R r1 r2
    exact hfin R (Sort.permIn_trans _ _ _ _ _ q13 u1) u2⟩,by simp only;omega,⟨rfl,rfl,rfl,rfl,rfl⟩,rfl⟩
  ·have hll:decide (((mid-a:Nat):Int)<((b-mid:Nat):Int))=false:=decide_eq_false (by omega)
   repeat' first|(refine gS ?_;simp only[go_sem,hw1,hw2,hll,hw3])|refine gA ?_|(refine gD (fun h=>?_) (fun h=>?_)<;>try exact aB h)|fail
   refine bJ (ih (d:=E4) (a:=mid+1) (b:=b) (by omega) hE4.symm hl (by omega) (by omega) hlim m5 _ (hg _)) oV ?_
   rintro r H' ⟨E5,x1,x2,rfl,rfl⟩
   obtain⟨y1,y2⟩:=m7 E5 x1 x2
   simp only[go_sem,hs]
   repeat' first|(refine gS ?_;simp only[go_sem])|refine gA ?_|(refine gD (fun h=>?_) (fun h=>?_)<;>try exact aB h)|fail
   exact⟨(a,mid,lim,_,ap,E5),⟨⟨p1,m1,by simp only;omega⟩,by simp only;rw[x1.1];exact hE4,hlim,y1,fun R r1 r2=>by
    obtain⟨u1,u2⟩:=y2 R r1 r2
    exact hfin R (Sort.permIn_trans _ _ _ _ _ q13 u1) u2⟩,by simp only;omega,⟨rfl,rfl,rfl,rfl,rfl⟩,rfl⟩
theorem bDF(hw:Sort.SWO lt)(hc:∀x y,decide (c x y<0)=lt x y)(hf:qU Tryz.prog (.func fn fs cs) c){d:Array fC}{n lc blk v:Nat}(hn:n=d.size)(hl:n≤1073741824)(H:AHeap)(hh:hget H blk=.cells v (dC d)):
  ACalls Tryz.prog 166 [.osl 1 blk v 0 n lc,.func fn fs cs] H
   (fun r H'=>∃d',Sort.PermIn 0 n d d'∧Sort.SortedIn lt 0 n d'∧r=.tup []∧H'=aD H blk (.cells v (dC d'))):=by
 refine bQ Tryz.func166 rfl (Nat.le_of_ble_eq_true rfl) ?_
 have hwu:IntKind.u64.wrap (n:Int)=(n:Int):=yT (by omega)
 repeat' first|(refine gS ?_;simp only[go_sem,hh,hwu])|refine gA ?_|(refine gD (fun h=>?_) (fun h=>?_)<;>try exact aB h)|fail
 refine bJ (aMh n (by omega) _) vG ?_
 rintro r H' ⟨L,rfl,h1, -,rfl⟩
 simp only[go_sem]
 refine bJ (aRq hw hc hf n (d:=d) (a:=0) (b:=n) (by omega) hn hl (Nat.le_refl _) (Nat.zero_le _) (lim:=(L:Int)) (by omega) (.inl rfl) _ hh) oV ?_
 rintro r H' ⟨d',s1,s2,rfl,rfl⟩
 simp only[go_sem]
 repeat' first|(refine gS ?_;simp only[go_sem])|refine gA ?_|(refine gD (fun h=>?_) (fun h=>?_)<;>try exact aB h)|fail
 exact fY (eV _ _ _) _ ⟨_,s1,s2,rfl,rfl⟩
end
end Go.Proofs.YthhdnjiodklmmaaGreatDoor
/- name.Less, and the order by which names rise: what they answer. No condition but how long the texts are. -/
namespace Go.Gw
def aG3(a b:Txt):Int:=if tY a b=true then-1 else if tY b a=true then 1 else 0
theorem bDG(a b:Txt):decide (aG3 a b<0)=tY a b:=by
 unfold aG3
 cases h:tY a b with
 |true=>rfl
 |false=>
  rw[if_neg (by simp)]
  split<;>rfl
end Go.Gw
namespace Go.Proofs.YthhdnjiodklmmaaGreatDoor
open Go Go.Aw Go.Gw
set_option linter.unusedSimpArgs false
set_option linter.unusedVariables false
set_option maxRecDepth 20000
set_option maxHeartbeats 4000000
theorem wM(a:Int)(H:AHeap):cN Tryz.prog 226 [.int .i32 a] H (.bool false):=by
 refine aQ Tryz.func226 rfl (Nat.le_of_ble_eq_true rfl) ?_
 have h0:decide (a=a)=true:=decide_eq_true rfl
 repeat' first|(refine gS ?_;simp only[go_sem,h0])|refine gA ?_|(refine gD (fun h=>?_) (fun h=>?_)<;>try exact aB h)|fail
 exact aT (by simp only[go_sem]) (.of (by simp))
def aBn(a b:Int):Int:=if a<b then-1 else if b<a then 1 else 0
theorem aRr(a b:Int)(H:AHeap):cN Tryz.prog 200 [.int .i32 a,.int .i32 b] H (.int .i64 (aBn a b)):=by
 refine aQ Tryz.func200 rfl (Nat.le_of_ble_eq_true rfl) ?_
 unfold aBn
 repeat' first|((first|refine cK (ct (wM _) oZ) ?_|refine cP (ct (wM _) oZ) ?_|refine cM (ct (wM _) oZ) ?_|refine gS ?_);simp only[go_sem])|refine gA ?_|(refine gD (fun h=>?_) (fun h=>?_)<;>try exact aB h)|fail
 all_goals exact aT (by simp only[go_sem]) (.of (congrArg _ (by simp only[decide_eq_true_eq,decide_eq_false_iff_not]at *;(repeat' split)<;>omega)))
def aAl(s:Txt)(k:Nat):ABlk:=.cells 1 (((s.take k).map fun b=>AV.int .i32 ((b.toNat:Int)+1114112))++List.replicate (s.length-k) (AV.int .i32 0))
theorem aDw(s:Txt)(hs:s.length≤1073741824)(H:AHeap):cN Tryz.prog 169 [.str s] H (.sl false ((cD s).map rA)):=by
 refine aQ Tryz.func169 rfl (Nat.le_of_ble_eq_true rfl) ?_
 have hsp:=aC7 s hs
 unfold cD
 cases hc:lE s with
 |some l=>
  rw[hc]at hsp
  simp only[vO]at hsp
  have ct0:=ct hsp fF;repeat' first|((first|refine gK ?_|refine gS ?_);simp only[go_sem])|refine gA ?_|(refine gD (fun h=>?_) (fun h=>?_)<;>try exact aB h)|fail
  exact aT (.sl _ _ fun e he=>by obtain⟨x,_,rfl⟩:=List.mem_map.1 he;exact .int _ _) (.refl _)
 |none=>
  rw[hc]at hsp
  simp only[vO]at hsp
  have ct0:=ct hsp fF;repeat' first|((first|refine gK ?_|refine gS ?_);simp only[go_sem])|refine gA ?_|(refine gD (fun h=>?_) (fun h=>?_)<;>try exact aB h)|fail
  refine aR (ι:=Nat) (fun k=>[(0,.str s),(3,.osl 1 H.length 1 0 k s.length),(17,.int .i64 s.length),(18,.int .i64 k)]) (fun k=>H++[aAl s k]) (fun k=>k≤s.length) (fun k=>s.length-k) 0 (Nat.zero_le _) ?_ (by simp[aAl,aAO]) ?_
  ·simp[go_sem]
  intro k hk
  by_cases hlt:k<s.length
  ·have hli:decide ((k:Int)<(s.length:Int))=true:=decide_eq_true (by omega)
   have hgd:s.getD k 0=s[k]:=by simp[List.getD_eq_getElem?_getD,hlt]
   have hb:=s[k].toNat_lt
   have hw1:IntKind.i32.wrap ((s[k].toNat:Nat):Int)=((s[k].toNat:Nat):Int):=by simp[IntKind.wrap,IntKind.bits,IntKind.signed];omega
   have hw2:IntKind.i32.wrap (1114111+((s[k].toNat:Nat):Int))=1114111+((s[k].toNat:Nat):Int):=by simp[IntKind.wrap,IntKind.bits,IntKind.signed];omega
   have hw3:IntKind.i32.wrap (1114111+((s[k].toNat:Nat):Int)+1)=((s[k].toNat:Nat):Int)+1114112:=by simp[IntKind.wrap,IntKind.bits,IntKind.signed];omega
   have hw4:IntKind.i64.wrap ((k:Int)+1)=((k+1:Nat):Int):=aH (by omega) (by omega)
   have hne:(k=s.length)=False:=eq_false (by omega)
   obtain⟨m,hm⟩:∃m,s.length-k=m+1:=⟨s.length-k-1,by omega⟩
   have hm2:s.length-(k+1)=m:=by omega
   have hsr:=pL ((s.take k).map fun b=>AV.int .i32 ((b.toNat:Int)+1114112)) m (.int .i32 0) (.int .i32 ((s[k].toNat:Int)+1114112))
   rw[List.length_map,List.length_take,Nat.min_eq_left hk]at hsr
   have hq:(∀e,e=AV.int .i32 ((s[k].toNat:Int)+1114112)→e.cells.length=1)=True:=eq_true fun e he=>by rw[he];rfl
   unfold aAl
   rw[hm]
   repeat' first|(refine gS ?_;simp only[go_sem,hli,hgd,hw1,hw2,hw3,hw4,hne,hq,Nat.mul_one,hsr])|refine gA ?_|(refine gD (fun h=>?_) (fun h=>?_)<;>try exact aB h)|fail
   exact⟨k+1,hlt,by omega,⟨rfl,rfl⟩,by rw[hm2,List.take_succ_eq_append_getElem hlt,List.map_append,List.append_assoc];rfl⟩
  ·have hke:k=s.length:=by omega
   subst hke
   have hli:decide ((s.length:Int)<(s.length:Int))=false:=by simp
   unfold aAl
   repeat' first|(refine gS ?_;simp only[go_sem,hli])|refine gA ?_|(refine gD (fun h=>?_) (fun h=>?_)<;>try exact aB h)|fail
   rw[List.take_length]
   exact iU (es:=(s.map fun b=>((b.toNat:Int)+1114112)).map rA) (rest:=List.replicate (s.length-s.length) (AV.int .i32 0)) (Nat.le_refl _) (by simp only[go_sem];rfl) (by rw[Nat.sub_self,List.replicate_zero];congr 1;rw[List.map_map,List.flatMap_map];exact List.map_eq_flatMap ..) (by simp) (fun e he=>by obtain⟨c,_,rfl⟩:=List.mem_map.1 he;rfl) (fun e he=>by obtain⟨c,_,rfl⟩:=List.mem_map.1 he;exact .int _ _) rfl
theorem aKt(b1 b2:Bool)(l m:List Int)(H:AHeap):cN Tryz.prog 168 [.sl b1 (l.map rA),.sl b2 (m.map rA)] H (.int .i64 (eS l m)):=by
 refine iT fun hok _=>?_
 have hl:=mS hok
 rw[List.length_map]at hl
 refine aQ Tryz.func168 rfl (Nat.le_of_ble_eq_true rfl) ?_
 obtain⟨X,hX⟩:∃X,eS l m=X:=⟨_,rfl⟩
 rw[hX]
 repeat' first|(refine gS ?_;simp only[go_sem])|refine gA ?_|(refine gD (fun h=>?_) (fun h=>?_)<;>try exact aB h)|fail
 refine aR (ι:=Nat) (fun k=>[(0,.sl b1 (l.map rA)),(1,.sl b2 (m.map rA)),(9,.sl b1 (l.map rA)),(10,.int .i64 l.length),(11,.int .i64 k)]) (fun _=>H) (fun k=>k≤l.length∧k≤m.length∧eS (l.drop k) (m.drop k)=X) (fun k=>l.length-k) 0 ⟨Nat.zero_le _,Nat.zero_le _,by simpa using hX⟩ ?_ rfl ?_
 ·simp[go_sem]
 rintro k ⟨h1,h2,h3⟩
 by_cases hlt:k<l.length
 ·have hli:decide ((k:Int)<(l.length:Int))=true:=decide_eq_true (by omega)
  have hp:=bF rA hlt
  have hw:IntKind.i64.wrap ((k:Int)+1)=((k+1:Nat):Int):=by rw[wrap_i64 (by omega) (by omega)];rfl
  rw[List.drop_eq_getElem_cons hlt]at h3
  by_cases hm:k<m.length
  ·have hli2:decide ((m.length:Int)≤(k:Int))=false:=decide_eq_false (by omega)
   have hq:=bF rA hm
   have hc:=aRr l[k] m[k]
   rw[List.drop_eq_getElem_cons hm,eS]at h3
   by_cases hne:aBn l[k] m[k]=0
   ·have hz:decide (aBn l[k] m[k]=0)=true:=decide_eq_true hne
    have:¬l[k]<m[k]∧¬m[k]<l[k]:=by unfold aBn at hne;(repeat' split at hne)<;>omega
    rw[if_neg this.1,if_neg this.2]at h3
    have ct0:=ct hc vH;repeat' first|((first|refine gK ?_|refine gS ?_);simp only[go_sem,hli,hli2,hp,hq,hz,hw,rA])|refine gA ?_|(refine gD (fun h=>?_) (fun h=>?_)<;>try exact aB h)|fail
    exact⟨k+1,⟨hlt,hm,h3⟩,by omega,rfl⟩
   ·have hz:decide (aBn l[k] m[k]=0)=false:=decide_eq_false hne
    have:aBn l[k] m[k]=X:=by rw[←h3];unfold aBn at hne ⊢;(repeat' split)<;>first|rfl|omega
    have ct0:=ct hc vH;repeat' first|((first|refine gK ?_|refine gS ?_);simp only[go_sem,hli,hli2,hp,hq,hz,rA])|refine gA ?_|(refine gD (fun h=>?_) (fun h=>?_)<;>try exact aB h)|fail
    exact aT (by simp only[go_sem]) (.of (by rw[this]))
  ·have hli2:decide ((m.length:Int)≤(k:Int))=true:=decide_eq_true (by omega)
   rw[show m.drop k=[]from List.drop_eq_nil_of_le (by omega),eS]at h3
   repeat' first|(refine gS ?_;simp only[go_sem,hli,hli2,hp,rA])|refine gA ?_|(refine gD (fun h=>?_) (fun h=>?_)<;>try exact aB h)|fail
   exact aT (by simp only[go_sem]) (.of (by rw[←h3]))
 ·have hli:decide ((k:Int)<(l.length:Int))=false:=decide_eq_false (by omega)
  rw[show l.drop k=[]from List.drop_eq_nil_of_le (by omega)]at h3
  by_cases hm:l.length<m.length
  ·have hli2:decide ((l.length:Int)<(m.length:Int))=true:=decide_eq_true (by omega)
   rw[List.drop_eq_getElem_cons (show k<m.length by omega),eS]at h3
   repeat' first|(refine gS ?_;simp only[go_sem,hli,hli2])|refine gA ?_|(refine gD (fun h=>?_) (fun h=>?_)<;>try exact aB h)|fail
   exact aT (by simp only[go_sem]) (.of (by rw[←h3]))
  ·have hli2:decide ((l.length:Int)<(m.length:Int))=false:=decide_eq_false (by omega)
   rw[show m.drop k=[]from List.drop_eq_nil_of_le (by omega),eS]at h3
   repeat' first|(refine gS ?_;simp only[go_sem,hli,hli2])|refine gA ?_|(refine gD (fun h=>?_) (fun h=>?_)<;>try exact aB h)|fail
   exact aT (by simp only[go_sem]) (.of (by rw[←h3]))
theorem aDx(a b:Txt)(ha:a.length≤1073741824)(hb:b.length≤1073741824)(H:AHeap):cN Tryz.prog 117 [.str a,.str b] H (.bool (tY a b)):=by
 refine aQ Tryz.func117 rfl (Nat.le_of_ble_eq_true rfl) ?_
 have h1:=aDw a ha
 have h2:=aDw b hb
 have h3:=aKt false false (cD a) (cD b)
 have ct0:=ct h1 vD;have ct1:=ct h2 vD;have ct2:=ct h3 aB2;repeat' first|((first|refine gK ?_|refine gS ?_);simp only[go_sem])|refine gA ?_|(refine gD (fun h=>?_) (fun h=>?_)<;>try exact aB h)|fail
 exact aT (by simp only[go_sem]) (.refl _)
theorem aEz(a b:Txt)(ha:a.length≤1073741824)(hb:b.length≤1073741824)(H:AHeap):cN Tryz.prog 116 [.str a,.str b] H (.int .i64 (aG3 a b)):=by
 refine aQ Tryz.func116 rfl (Nat.le_of_ble_eq_true rfl) ?_
 have h1:=aDx a b ha hb
 have h2:=aDx b a hb ha
 unfold aG3
 have ct0:=ct h1 uX;have ct1:=ct h2 uX;repeat' first|((first|refine gK ?_|refine gS ?_);simp only[go_sem])|refine gA ?_|(refine gD (fun h=>?_) (fun h=>?_)<;>try exact aB h)|fail
 all_goals exact aT (by simp only[go_sem]) (.of (by simp_all))
theorem aRs:qU Tryz.prog (.func (.func 116) [] []) (fun a b=>aG3 a.1 b.1):=fun a b H=>.inl ⟨aBU,aEz a.1 b.1 a.2 b.2 H⟩
end Go.Proofs.YthhdnjiodklmmaaGreatDoor
/- The keys of a map, gone through in whatever order, and put in order. No condition but how many and how long they are. -/
namespace Go.Aw
structure MpOk (es:List (AV×AV×Nat)) (clock:Nat):Prop where
 nd:(es.map (·.2.2)).Nodup
 lt:∀p∈es,p.2.2<clock
theorem MpOk.find{es:List (AV×AV×Nat)}{clock:Nat}(h:MpOk es clock){p:AV×AV×Nat}(hp:p∈es):es.find? (fun q=>q.2.2==p.2.2)=some p:=by
 have hn:=h.nd
 clear h
 induction es with
 |nil=>cases hp
 |cons q es ih=>
  rw[List.map_cons,List.nodup_cons]at hn
  rw[List.find?_cons]
  rcases List.mem_cons.1 hp with rfl|hp'
  ·rw[beq_self_eq_true]
  ·have:(q.2.2==p.2.2)=false:=by
    rw[beq_eq_false_iff_ne]
    intro e
    exact hn.1 (e▸List.mem_map.2 ⟨p,hp',rfl⟩)
   rw[this]
   exact ih hp' hn.2
theorem MpOk.ent{es:List (AV×AV×Nat)}{clock:Nat}(h:MpOk es clock){p:AV×AV×Nat}(hp:p∈es)(sb:List Nat):aYA clock (sb++[p.2.2]) (.map es clock)=⟨.tup [p.1,p.2.1],True⟩:=by
 simp only[aYA,List.getLast?_append,List.getLast?_singleton,Option.some_or,h.find hp]
theorem MpOk.filter{es:List (AV×AV×Nat)}{clock:Nat}(h:MpOk es clock)(f:AV×AV×Nat→Bool):MpOk (es.filter f) clock:=
 ⟨List.Nodup.sublist (List.Sublist.map _ List.filter_sublist) h.nd,fun p hp=>h.lt p (List.mem_filter.1 hp).1⟩
structure Gone (es ps:List (AV×AV×Nat)):Prop where
 sub:∀p∈ps,p∈es
 nd:(ps.map (·.2.2)).Nodup
theorem Gone.step{es ps:List (AV×AV×Nat)}(h:Gone es ps){p:AV×AV×Nat}(hp:p∈aMu es (ps.map (·.2.2))):Gone es (ps++[p])∧p∈es:=by
 obtain⟨h1,h2⟩:=List.mem_filter.1 hp
 refine⟨⟨fun q hq=>?_,?_⟩,h1⟩
 ·rcases List.mem_append.1 hq with hq|hq
  ·exact h.sub q hq
  ·rw[List.mem_singleton]at hq;subst hq;exact h1
 ·rw[List.map_append,List.nodup_append]
  refine⟨h.nd,by simp,fun a ha b hb e=>?_⟩
  simp only[List.map_cons,List.map_nil,List.mem_singleton]at hb
  subst hb;subst e
  simp only[Bool.not_eq_true',List.contains_eq_mem,decide_eq_false_iff_not]at h2
  exact h2 ha
theorem qV{α β:Type}(f:α→β){l:List α}(h:(l.map f).Nodup):l.Nodup:=by
 induction l with
 |nil=>exact List.nodup_nil
 |cons x l ih=>
  rw[List.map_cons,List.nodup_cons]at h
  rw[List.nodup_cons]
  exact⟨fun hx=>h.1 (List.mem_map.2 ⟨x,hx,rfl⟩),ih h.2⟩
theorem aEA{α:Type}[DecidableEq α]{xs ys:List α}(hn:xs.Nodup)(hs:∀x∈xs,x∈ys):xs.length≤ys.length:=by
 induction xs generalizing ys with
 |nil=>exact Nat.zero_le _
 |cons x xs ih=>
  rw[List.nodup_cons]at hn
  have hx:=hs x (by simp)
  have h2:∀z∈xs,z∈ys.erase x:=fun z hz=>(List.mem_erase_of_ne (by rintro rfl;exact hn.1 hz)).2 (hs z (List.mem_cons_of_mem _ hz))
  have:=ih hn.2 h2
  rw[List.length_erase_of_mem hx]at this
  have:=List.length_pos_of_mem hx
  rw[List.length_cons]
  omega
theorem Gone.len{es ps:List (AV×AV×Nat)}(h:Gone es ps):ps.length≤es.length:=by
 have:=aEA (ys:=es.map (·.2.2)) h.nd (fun x hx=>by obtain⟨p,hp,rfl⟩:=List.mem_map.1 hx;exact List.mem_map.2 ⟨p,h.sub p hp,rfl⟩)
 simpa using this
theorem Gone.perm{es ps:List (AV×AV×Nat)}{clock:Nat}(h:Gone es ps)(ho:MpOk es clock)(he:aMu es (ps.map (·.2.2))=[]):ps.Perm es:=by
 refine(List.perm_ext_iff_of_nodup (qV _ h.nd) (qV _ ho.nd)).2 fun p=>⟨h.sub p,fun hp=>?_⟩
 have:p.2.2∈ps.map (·.2.2):=by
  have:=List.filter_eq_nil_iff.1 he p hp
  simpa using this
 obtain⟨q,hq,e⟩:=List.mem_map.1 this
 have e1:=ho.find (h.sub q hq)
 have e2:=ho.find hp
 rw[e]at e1
 rw[e1]at e2
 cases e2
 exact hq
end Go.Aw
namespace Go.Proofs.YthhdnjiodklmmaaGreatDoor
open Go Go.Aw Go.Gw
set_option linter.unusedSimpArgs false
set_option linter.unusedVariables false
set_option maxRecDepth 20000
set_option maxHeartbeats 4000000
theorem aKu{es:List (AV×AV×Nat)}{clock:Nat}(ho:MpOk es clock)(i y:Nat)(J:List AV→AHeap→Prop)(H:AHeap)(hM:∀ks G,J ks G→hget G i=.map es clock)(hA:∀ks G L,J ks G→J ks (G++L))(hI:∀ks G it X,J ks G→H.length≤it→J ks (aD G it X))
  (hY:∀ks p G it B,p∈es→ks.length<es.length→J ks G→H.length≤it→hget G it=B→B.live→AYield Tryz.prog y [p.1] G (fun v G'=>v=.bool true∧J (ks++[p.1]) G'∧hget G' it=B)) (h0:J [] H):
  ACalls Tryz.prog 167 [.func (.yield y) [] [],.cptr [.map i]] H (fun _ G=>∃ps:List (AV×AV×Nat),ps.Perm es∧J (ps.map (·.1)) G):=by
 refine dI Tryz.func167 rfl (Nat.le_of_ble_eq_true rfl) ?_
 have hm:=hM _ _ h0
 repeat' first|(refine gS ?_;simp only[go_sem,hm])|refine gA ?_|(refine gD (fun h=>?_) (fun h=>?_)<;>try exact aB h)|fail
 refine aR (ι:=List (AV×AV×Nat)×AHeap) (fun s=>[(0,.func (.yield y) [] []),(5,.iter H.length)]) (fun s=>s.2) (fun s=>Gone es s.1∧J (s.1.map (·.1)) s.2∧hget s.2 H.length=.miter i clock (s.1.map (·.2.2)) clock) (fun s=>es.length-s.1.length)
  ([],H++[.miter i clock [] clock]) ⟨⟨fun p hp=>(by cases hp),(by simp)⟩,hA _ _ _ h0,iF H _⟩ ?_ rfl ?_
 ·simp[go_sem]
 rintro⟨ps,G⟩ ⟨hG,hJ,hit⟩
 simp only at hG hJ hit ⊢
 have hmG:=hM _ _ hJ
 have hlt:=bP hit trivial
 repeat' first|(refine gS ?_;simp only[go_sem])|refine gA ?_|(refine gD (fun h=>?_) (fun h=>?_)<;>try exact aB h)|fail
 refine⟨H.length,i,clock,ps.map (·.2.2),clock,es,clock,rfl,hit,hmG,fun p hp=>⟨ho.lt p hp,ho.lt p hp⟩,fun he=>?_,fun p hp=>?_⟩
 ·simp only[go_sem]
  repeat' first|(refine gS ?_;simp only[go_sem])|refine gA ?_|(refine gD (fun h=>?_) (fun h=>?_)<;>try exact aB h)|fail
  exact⟨ps,hG.perm ho he,hJ⟩
 ·obtain⟨hG2,hpe⟩:=hG.step hp
  obtain⟨B,hB⟩:∃B,B=ABlk.miter i clock (ps.map (·.2.2)++[p.2.2]) clock:=⟨_,rfl⟩
  rw[←hB]
  have hJ2:=hI _ _ H.length B hJ (Nat.le_refl _)
  have g1:hget (aD G H.length B) H.length=.miter i clock (ps.map (·.2.2)++[p.2.2]) clock:=by rw[dD hlt,hB]
  have g2:=hM _ _ hJ2
  have g3:=ho.ent hpe (ps.map (·.2.2))
  have hlk:=hG2.len
  rw[List.length_append,List.length_singleton]at hlk
  have hy:=hY _ p _ H.length B hpe (by rw[List.length_map];omega) hJ2 (Nat.le_refl _) (dD hlt B) (by rw[hB];trivial)
  generalize aD G H.length B=G2 at *
  simp only[go_sem]
  repeat' first|(refine gS ?_;simp only[go_sem,g1,g2,g3])|refine gA ?_|(refine gD (fun h=>?_) (fun h=>?_)<;>try exact aB h)|fail
  refine mW hy ?_
  rintro v G' ⟨rfl,hJ3,hit3⟩
  simp only[go_sem]
  repeat' first|(refine gS ?_;simp only[go_sem])|refine gA ?_|(refine gD (fun h=>?_) (fun h=>?_)<;>try exact aB h)|fail
  refine⟨(ps++[p],G'),⟨hG2,by simpa using hJ3,by simp only;rw[hit3,hB];simp⟩,?_,rfl⟩
  have:=hG2.len
  simp only[List.length_append,List.length_cons,List.length_nil]at this ⊢
  omega
theorem bEA(i:Nat)(H:AHeap)(hi:i<H.length):cN Tryz.prog 115 [.map i] H (.func (.func 167) [] [.cptr [.map i]]):=by
 refine aQ Tryz.func115 rfl (Nat.le_of_ble_eq_true rfl) ?_
 repeat' first|(refine gS ?_;simp only[go_sem])|refine gA ?_|(refine gD (fun h=>?_) (fun h=>?_)<;>try exact aB h)|fail
 refine⟨_,_,rfl,?_,rfl⟩
 refine .func _ _ _ _ _ rfl rfl iV (iY (tS (Nat.le_refl _) (by simp only[go_sem]) ?_) iV)
 simp only[List.mem_singleton,forall_eq];exact .map _ hi
theorem aMi{H:AHeap}{A B:ABlk}{n:Nat}(hA:ClB n A)(hB:ClB n B):∀(j:Nat) (b:ABlk),(H++[A,B])[j]?=some b→H[j]?=some b∨ClB n b:=fun j b hj=>by
 by_cases hj2:j<H.length
 ·rw[List.getElem?_append_left hj2]at hj;exact .inl hj
 ·rw[List.getElem?_append_right (by omega)]at hj
  refine .inr ?_
  match hk:j-H.length,hj with
  |0,hj=>cases hj;exact hA
  |1,hj=>cases hj;exact hB
  |k+2,hj=>simp at hj
structure JA (H:AHeap) (es:List (AV×AV×Nat)) (clock i:Nat) (LB:ABlk) (ks:List AV) (G:AHeap):Prop where
 pre:∃M,G=H++M
 b0:hget G H.length=.cells 0 [.osl 1 (H.length+1) (ks.length+1) 0 ks.length ks.length]
 b1:hget G (H.length+1)=.cells (ks.length+1) ks
 b2:hget G (H.length+2)=LB
 m:hget G i=.map es clock
 tx:∀k∈ks,∃s:Txt,k=.str s
theorem aG4{es:List (AV×AV×Nat)}{clock:Nat}(ho:MpOk es clock)(i:Nat)(hks:∀p∈es,∃s:Txt,p.1=.str s)(hl:es.length≤1073741824)(H:AHeap)(hm:hget H i=.map es clock):
  ACalls Tryz.prog 197 [.sl true [],.func (.func 167) [] [.cptr [.map i]]] H
   (fun r H'=>∃ps:List (AV×AV×Nat),ps.Perm es∧r=.osl 1 (H.length+1) (ps.length+1) 0 ps.length ps.length∧∃A,ClB (H.length+2) A∧H'=H++[A,.cells (ps.length+1) (ps.map (·.1))]):=by
 refine gR Tryz.func197 rfl (Nat.le_of_ble_eq_true rfl) ?_
 have hil:=bP hm trivial
 repeat' first|(refine gS ?_;simp only[go_sem])|refine gA ?_|(refine gD (fun h=>?_) (fun h=>?_)<;>try exact aB h)|fail
 refine aA5 H.length 0 1 (by simp only[go_sem];rfl) rfl ?_
 simp only[go_sem]
 refine aF4 [(2,.ref H.length 0 0),(6,.func (.func 167) [] [.cptr [.map i]])] (by simp[go_sem]) ?_
 refine qH rfl aB1 fun y LB hLB=>?_
 have hLv:LB.live:=by rw[hLB];trivial
 rw[List.append_assoc]
 have hlen2:(H++[ABlk.cells 0 [.osl 1 (H.length+1) 1 0 0 0],.cells 1 []]).length=H.length+2:=by simp
 rw[hlen2]
 refine(aKu ho i y (JA H es clock i LB) _ (fun ks G h=>h.m) (fun ks G L h=>⟨let⟨M,e⟩:=h.pre;⟨M++L,by rw[e,List.append_assoc]⟩,aK h.b0 trivial L,aK h.b1 trivial L,aK h.b2 hLv L,aK h.m trivial L,h.tx⟩) (fun ks G it X h hit=>?_) (fun ks p G it B hp hkl h hit hB hBl=>?_) ?_).mono fun _ H' ⟨ps,hp,h⟩=>?_
 ·have hit':H.length+3≤it:=by simpa[Nat.add_assoc]using hit
  exact⟨eE h.pre (by omega) X,bH h.b0 (by omega) X,bH h.b1 (by omega) X,bH h.b2 (by omega) X,bH h.m (by omega) X,h.tx⟩
 ·have hit':H.length+3≤it:=by simpa[Nat.add_assoc]using hit
  obtain⟨s,hs⟩:=hks p hp
  rw[hs]
  refine yB h.b2 hLB rfl rfl rfl rfl fun BB fin hBB hlB hf1 hf2=>?_
  have f3:=aZ h.b2 hLv
  have g3:=eZ h.b2 hLv
  simp only[vK]
  refine lB rfl ?_
  simp only[go_sem]
  refine⟨h.b2,?_⟩
  obtain⟨G1,hG1⟩:∃G1,aD G (H.length+2) BB=G1:=⟨_,rfl⟩
  rw[hG1]
  have hl3:=bP h.b2 hLv
  have hlen:G.length=G1.length:=by rw[←hG1];simp[aD]
  have a0:=bH h.b0 (i:=H.length+2) (by omega) BB
  have a1:=bH h.b1 (i:=H.length+2) (by omega) BB
  have a2:hget G1 (H.length+2)=BB:=by rw[←hG1];exact dD hl3 BB
  have a3:=bH h.m (i:=H.length+2) (by omega) BB
  have a4:=bH hB (i:=H.length+2) (by omega) BB
  rw[hG1]at a0 a1 a3 a4
  have a5:∃M,G1=H++M:=by rw[←hG1];exact eE h.pre (by omega) BB
  have hq1:(∀e,e=AV.str s→e.cells.length=1)=True:=eq_true (fun e he=>by rw[he];rfl)
  have hq2:((ks.length+1) * 16≤140737488355328)=True:=eq_true (by omega)
  clear hLB hBB hf2
  have a6:=fun Y=>bH a0 (i:=H.length+1) (by omega) Y
  have hcl:∀n,ClB n (.cells (ks.length+2) (ks++[AV.str s])):=fun n x hx=>by
   rcases List.mem_append.1 hx with hx|hx
   ·obtain⟨t,rfl⟩:=h.tx x hx;exact .str _
   ·rw[List.mem_singleton]at hx;subst hx;exact .str _
  have hl1:=bP a1 trivial
  have hl0:=bP a0 trivial
  have hsp:cT [AV.osl 1 (H.length+1) (ks.length+1) 0 ks.length ks.length] 0 [.osl 1 (H.length+1) (ks.length+2) 0 (ks.length+1) (ks.length+1)]=[.osl 1 (H.length+1) (ks.length+2) 0 (ks.length+1) (ks.length+1)]:=rfl
  repeat' first|(refine gS ?_;simp only[go_sem,a0,a1,a2,a6,hq1,hq2,hsp,Nat.mul_one])|refine gA ?_|(refine gD (fun h=>?_) (fun h=>?_)<;>try exact aB h)|fail
  refine⟨bH (bH a2 (by omega) _) (by omega) _,_,[],(List.append_nil _).symm,by rw[aI,aI],fun j b hj=>?_,rfl,?_,?_⟩
  ·rcases jW (n:=G1.length) (b:=.cells 0 [.osl 1 (H.length+1) (ks.length+2) 0 (ks.length+1) (ks.length+1)]) (fun x hx=>by rw[List.mem_singleton]at hx;subst hx;exact .osl _ _ _ _ _ _ (by omega)) j b hj with q|q
   ·exact jW (hcl _) j b q
   ·exact .inr q
  ·have hkl2:(ks++[AV.str s]).length=ks.length+1:=by simp
   rw[hf1]
   have htx:∀k∈ks++[AV.str s],∃s:Txt,k=.str s:=fun k hk=>by
    rcases List.mem_append.1 hk with hk|hk
    ·exact h.tx k hk
    ·rw[List.mem_singleton]at hk;exact⟨s,hk⟩
   refine⟨eE (eE (eE a5 (by omega) _) (by omega) _) (by omega) _,?_,?_,?_,?_,htx⟩
   ·rw[hkl2];exact bH (dD (by rw[aI];exact hl0) _) (by omega) _
   ·rw[hkl2];exact bH (bH (dD hl1 _) (by omega) _) (by omega) _
   ·exact dD (by rw[aI,aI,←hlen];exact hl3) _
   ·exact bH (bH (bH a3 (by omega) _) (by omega) _) (by omega) _
  ·exact bH (bH (bH a4 (by omega) _) (by omega) _) (by omega) _
 ·exact⟨⟨_,rfl⟩,by simp only[go_sem],by simp only[go_sem],by simp only[go_sem],aK hm trivial _,fun k hk=>by cases hk⟩
 ·refine .inl ⟨.ready,by simp,h.b2.trans hLB,fun X=>?_⟩
  have e0:=bH h.b0 (i:=H.length+2) (by omega) X
  have e1:=bH h.b1 (i:=H.length+2) (by omega) X
  obtain⟨M,e2⟩:=eE (H:=H) h.pre (i:=H.length+2) (by omega) X
  obtain⟨G2,hG2⟩:∃G2,aD H' (H.length+2) X=G2:=⟨_,rfl⟩
  rw[hG2]at e0 e1 e2 ⊢
  simp only[go_sem]
  repeat' first|(refine gS ?_;simp only[go_sem,e0])|refine gA ?_|(refine gD (fun h=>?_) (fun h=>?_)<;>try exact aB h)|fail
  rw[e2,iF]at e0
  rw[e2,mQ,List.length_map]at e1
  match M,e0,e1 with
  |A::B::L,e0,e1=>
   simp only[List.getD_cons_zero,List.getD_cons_succ]at e0 e1
   subst e0;subst e1
   have q1:ClB (H.length+2) (.cells 0 [.osl 1 (H.length+1) ((ps.map (·.1)).length+1) 0 (ps.map (·.1)).length (ps.map (·.1)).length]):=fun x hx=>by rw[List.mem_singleton]at hx;subst hx;exact .osl _ _ _ _ _ _ (by omega)
   have q2:ClB (H.length+2) (.cells (ps.length+1) (ps.map (·.1))):=fun x hx=>by obtain⟨q,hq,rfl⟩:=List.mem_map.1 hx;obtain⟨s,e⟩:=hks q (hp.mem_iff.1 hq);rw[e];exact .str _
   exact⟨H++[_,_],L,_,by rw[e2,List.append_assoc];rfl,by simp,by simpa using aMi q1 q2,.cl _ (.osl _ _ _ _ _ _ (by simp)),ps,hp,rfl,_,q1,rfl⟩
end Go.Proofs.YthhdnjiodklmmaaGreatDoor
/- view.List: the names that are seen in a directory, in order. No condition but how many and how long they are. -/
namespace Go.Gw
open Go Go.Aw Go.Proofs.YthhdnjiodklmmaaGreatDoor
theorem wN(b:Nat)(m:List (Txt×Nd)):(mG b m).map (·.2.2)=List.range' b m.length:=by
 induction m generalizing b with
 |nil=>rfl
 |cons p m ih=>rw[mG,List.map_cons,ih,List.length_cons,List.range'_succ]
theorem bEB(m:List (Txt×Nd)):MpOk (mG 0 m) m.length where
 nd:=by rw[wN];exact List.nodup_range'
 lt:=fun p hp=>by
  have:p.2.2∈(mG 0 m).map (·.2.2):=List.mem_map.2 ⟨p,hp,rfl⟩
  rw[wN]at this
  have:=List.mem_range'_1.1 this
  omega
theorem bDH(b:Nat)(m:List (Txt×Nd)):(mG b m).map (·.1)=(m.map (·.1)).map AV.str:=by
 induction m generalizing b with
 |nil=>rfl
 |cons p m ih=>rw[mG,List.map_cons,ih];rfl
def unS:AV→Txt
 |.str s=>s
 |_=>[]
theorem bCl{xs:List AV}{ks:List Txt}(h:xs.Perm (ks.map AV.str)):∃qs:List Txt,xs=qs.map AV.str∧qs.Perm ks:=by
 refine⟨xs.map unS,?_,?_⟩
 ·rw[List.map_map]
  have hx:∀x∈xs,(AV.str∘unS) x=x:=fun x hx=>by
   obtain⟨s, -,rfl⟩:=List.mem_map.1 (h.mem_iff.1 hx);rfl
  rw[List.map_congr_left hx,List.map_id']
 ·have:=h.map unS
  rw[List.map_map]at this
  simpa[Function.comp_def,unS]using this
theorem aYo(l:List Txt):(l.map AV.str).flatMap AV.cells=l.map AV.str:=by rw[List.flatMap_map];exact(List.map_eq_flatMap ..).symm
def SmL(l:List Txt):Prop:=∀s∈l,s.length≤1073741824
def bCm(l:List Txt)(h:SmL l):List fC:=l.attach.map fun s=>⟨s.1,h s.1 s.2⟩
theorem bCn(l:List Txt)(h:SmL l):(bCm l h).map (·.1)=l:=by
 unfold bCm
 rw[List.map_map]
 show l.attach.map (fun s=>s.1)=l
 exact List.attach_map_subtype_val l
theorem aYp{d d':Array fC}{ks:List Txt}(hp:(d.toList.map (·.1)).Perm ks)(h1:Sort.PermIn 0 d.size d d')(h2:Sort.SortedIn (fun a b=>tY a.1 b.1) 0 d.size d'):d'.toList.map (·.1)=mY ks:=by
 obtain⟨e1, -,e3⟩:=h1
 have hx:∀(a:Array fC),a.extract 0 a.size=a:=fun a=>by simp
 rw[hx d]at e3
 rw[←e1,hx d']at e3
 refine aCx ?_ ((e3.map _).trans hp)
 rw[List.pairwise_map,List.pairwise_iff_getElem]
 intro i j hi hj hij
 have hi':i<d'.size:=by simpa using hi
 have hj':j<d'.size:=by simpa using hj
 have:=h2 i j (Nat.zero_le _) hij (by omega)
 simp only[getElem!_pos d' i hi',getElem!_pos d' j hj']at this
 simpa using this
end Go.Gw
namespace Go.Proofs.YthhdnjiodklmmaaGreatDoor
open Go Go.Aw Go.Gw
set_option linter.unusedSimpArgs false
set_option linter.unusedVariables false
set_option maxRecDepth 20000
set_option maxHeartbeats 4000000
theorem aEB{es:List (AV×AV×Nat)}{clock:Nat}(ho:MpOk es clock)(i:Nat)(hks:∀p∈es,∃s:Txt,p.1=.str s)(hl:es.length≤1073741824)(H:AHeap)(hm:hget H i=.map es clock):
  ACalls Tryz.prog 165 [.func (.func 167) [] [.cptr [.map i]]] H
   (fun r H'=>∃ps:List (AV×AV×Nat),ps.Perm es∧r=.osl 1 (H.length+1) (ps.length+1) 0 ps.length ps.length∧∃A,ClB (H.length+2) A∧H'=H++[A,.cells (ps.length+1) (ps.map (·.1))]):=by
 refine gR Tryz.func165 rfl (Nat.le_of_ble_eq_true rfl) ?_
 repeat' first|(refine gS ?_;simp only[go_sem])|refine gA ?_|(refine gD (fun h=>?_) (fun h=>?_)<;>try exact aB h)|fail
 refine bJ (aG4 ho i hks hl H hm) aB5 ?_
 rintro r H' ⟨ps,hp,rfl,A,hA,rfl⟩
 simp only[go_sem]
 repeat' first|(refine gS ?_;simp only[go_sem])|refine gA ?_|(refine gD (fun h=>?_) (fun h=>?_)<;>try exact aB h)|fail
 have q2:ClB (H.length+2) (.cells (ps.length+1) (ps.map (·.1))):=fun x hx=>by obtain⟨q,hq,rfl⟩:=List.mem_map.1 hx;obtain⟨s,e⟩:=hks q (hp.mem_iff.1 hq);rw[e];exact .str _
 exact⟨H++[A,.cells (ps.length+1) (ps.map (·.1))],[],_,(List.append_nil _).symm,by simp,by simpa using aMi hA q2,.cl _ (.osl _ _ _ _ _ _ (by simp)),ps,hp,rfl,A,hA,rfl⟩
theorem bDJ:Sort.SWO (fun a b:fC=>tY a.1 b.1)where
 irrefl:=fun x=>nN.irrefl x.1
 trans:=fun x y z=>nN.trans x.1 y.1 z.1
 ntrans:=fun x y z=>nN.ntrans x.1 y.1 z.1
theorem aYq{es:List (AV×AV×Nat)}{clock:Nat}(ho:MpOk es clock)(i:Nat){ks:List Txt}(hk:es.map (·.1)=ks.map AV.str)(hs:SmL ks)(hl:es.length≤1073741824)(H:AHeap)(hm:hget H i=.map es clock):
  cN Tryz.prog 114 [.func (.func 167) [] [.cptr [.map i]],.func (.func 116) [] []] H (.sl false ((mY ks).map AV.str)):=by
 refine aQ Tryz.func114 rfl (Nat.le_of_ble_eq_true rfl) ?_
 have hks:∀p∈es,∃s:Txt,p.1=.str s:=fun p hp=>by
  have:p.1∈ks.map AV.str:=hk▸List.mem_map.2 ⟨p,hp,rfl⟩
  obtain⟨s, -,e⟩:=List.mem_map.1 this
  exact⟨s,e.symm⟩
 repeat' first|(refine gS ?_;simp only[go_sem])|refine gA ?_|(refine gD (fun h=>?_) (fun h=>?_)<;>try exact aB h)|fail
 refine bJ (aEB ho i hks hl H hm) aB0 ?_
 rintro r H' ⟨ps,hp,rfl,A,hA,rfl⟩
 -- the keys, in whatever order
 obtain⟨qs,hq1,hq2⟩:∃qs:List Txt,ps.map (·.1)=qs.map AV.str∧qs.Perm ks:=by
  have h1:(ps.map (·.1)).Perm (ks.map AV.str):=hk▸hp.map _
  exact bCl h1
 have hsq:SmL qs:=fun s h=>hs s (hq2.mem_iff.1 h)
 have hlen:ps.length=(bCm qs hsq).toArray.size:=by
  have:=congrArg List.length hq1
  simp only[List.length_map]at this
  simp[bCm,this]
 have hd:ps.map (·.1)=dC (bCm qs hsq).toArray:=by
  unfold dC
  rw[hq1]
  conv=>lhs;rw[←bCn qs hsq]
  simp
 rw[hd]
 have hpl:=hp.length_eq
 simp only[go_sem]
 repeat' first|(refine gS ?_;simp only[go_sem])|refine gA ?_|(refine gD (fun h=>?_) (fun h=>?_)<;>try exact aB h)|fail
 refine bJ (bDF bDJ (fun x y=>bDG x.1 y.1) aRs hlen (by omega) _ (show hget (H++[A,.cells (ps.length+1) (dC (bCm qs hsq).toArray)]) (H.length+1)=_ from mQ H _ 1)) aQg ?_
 rintro r H' ⟨d',s1,s2,rfl,rfl⟩
 have hpp:((bCm qs hsq).toArray.toList.map (·.1)).Perm ks:=by rw[List.toList_toArray,bCn qs hsq];exact hq2
 have hfin:d'.toList.map (·.1)=mY ks:=aYp hpp (by rw[←hlen];exact s1) (by rw[←hlen];exact s2)
 simp only[go_sem]
 repeat' first|(refine gS ?_;simp only[go_sem])|refine gA ?_|(refine gD (fun h=>?_) (fun h=>?_)<;>try exact aB h)|fail
 have e1:dC d'=(mY ks).map AV.str:=by rw[←hfin,List.map_map];rfl
 have e2:ps.length=((mY ks).map AV.str).length:=by
  rw[←e1,bO,hlen]
  exact s1.1.symm
 rw[e1]
 exact iU (cs:=(mY ks).map AV.str) (es:=(mY ks).map AV.str) (rest:=[]) (by omega) (by simp only[go_sem]) (by rw[List.append_nil,aYo]) e2.symm (fun e he=>by obtain⟨x,_,rfl⟩:=List.mem_map.1 he;rfl) (fun e he=>by obtain⟨x,_,rfl⟩:=List.mem_map.1 he;exact .str _) rfl
theorem rising_c{es:List (AV×AV×Nat)}{clock:Nat}(ho:MpOk es clock)(i:Nat){ks:List Txt}(hk:es.map (·.1)=ks.map AV.str)(hs:SmL ks)(hl:es.length≤1073741824)(H:AHeap)(hm:hget H i=.map es clock):
  cN Tryz.prog 62 [.map i] H (.sl false ((mY ks).map AV.str)):=by
 refine aQ Tryz.func62 rfl (Nat.le_of_ble_eq_true rfl) ?_
 repeat' first|(refine gS ?_;simp only[go_sem])|refine gA ?_|(refine gD (fun h=>?_) (fun h=>?_)<;>try exact aB h)|fail
 refine aV (bEA i H (bP hm trivial)) aPP ?_
 simp only[go_sem]
 refine aV (aYq ho i hk hs hl H hm) aPO ?_
 simp only[go_sem]
 repeat' first|(refine gS ?_;simp only[go_sem])|refine gA ?_|(refine gD (fun h=>?_) (fun h=>?_)<;>try exact aB h)|fail
 exact aT (.sl _ _ fun e he=>by obtain⟨x,_,rfl⟩:=List.mem_map.1 he;exact .str _) (.refl _)
theorem seenN_len(l:List Nd)(dir:Int):(dS l dir).length≤l.length:=by
 have h:∀(k:List Nd) (m:List (Txt×Nd)),(k.foldl (rX dir) m).length≤m.length+k.length:=by
  intro k
  induction k with
  |nil=>exact fun m=>Nat.le_refl _
  |cons x k ih=>
   intro m
   have h1:=ih (rX dir m x)
   have hs:∀s (n:Nd) (m:List (Txt×Nd)),(jA s n m).length≤m.length+1:=fun s n m=>by
    induction m with
    |nil=>simp[jA]
    |cons q m ih=>obtain⟨k,y⟩:=q;unfold jA;split<;>simp;exact ih
   have h2:(rX dir m x).length≤m.length+1:=by
    unfold rX zM
    split
    ·split
     ·exact hs _ _ _
     ·split
      ·omega
      ·exact hs _ _ _
    ·omega
   rw[List.foldl_cons,List.length_cons]
   omega
 simpa[dS]using h l []
def SmN(l:List Nd):Prop:=∀n∈l,n.name.length≤1073741824
theorem smN_keys{l:List Nd}(h:SmN l)(dir:Int):SmL ((dS l dir).map (·.1)):=fun s hs=>by
 obtain⟨p,hp,rfl⟩:=List.mem_map.1 hs
 rw[←(nP l dir).2 p hp]
 exact h _ (yO l dir p hp).1
theorem vlist_c(b:Bool)(l:List Nd)(dir:Int)(hl:l.length≤1073741824)(hn:SmN l)(H:AHeap):cN Tryz.prog 127 [.sl b (l.map ndA),.int .i64 dir] H (.sl false ((aGu l dir).map AV.str)):=by
 refine aQ Tryz.func127 rfl (Nat.le_of_ble_eq_true rfl) ?_
 unfold aGu
 cases hs:chk l with
 |false=>
  repeat' first|((first|refine cK (ct (bM _ _) aN) ?_|refine cP (ct (bM _ _) aN) ?_|refine cM (ct (bM _ _) aN) ?_|refine gS ?_);simp only[go_sem,hs])|refine gA ?_|(refine gD (fun h=>?_) (fun h=>?_)<;>try exact aB h)|fail
  exact aT (by simp only[go_sem]) (.sl _ _)
 |true=>
  rw[if_pos rfl]
  repeat' first|((first|refine cK (ct (bM _ _) aN) ?_|refine cP (ct (bM _ _) aN) ?_|refine cM (ct (bM _ _) aN) ?_|refine gS ?_);simp only[go_sem,hs])|refine gA ?_|(refine gD (fun h=>?_) (fun h=>?_)<;>try exact aB h)|fail
  refine bJ (aRd b l dir hl H) aD2 ?_
  rintro v H' ⟨rfl,rfl⟩
  simp only[go_sem]
  refine aV (rising_c (bEB _) H.length (bDH 0 _) (smN_keys hn dir) (by rw[bDq];have:=seenN_len l dir;omega) _ (iF H _)) aXK ?_
  simp only[go_sem]
  repeat' first|(refine gS ?_;simp only[go_sem])|refine gA ?_|(refine gD (fun h=>?_) (fun h=>?_)<;>try exact aB h)|fail
  exact done (.sl _ _ fun e he=>by obtain⟨x,_,rfl⟩:=List.mem_map.1 he;exact .str _) (.refl _)
end Go.Proofs.YthhdnjiodklmmaaGreatDoor
/- What is done at the desk of calls that make, write, read, move, remove and list. No condition but what is known of a replica. -/
namespace Go.Gw
open Go Go.Aw Go.Proofs.YthhdnjiodklmmaaGreatDoor
structure CS (c:Cal):Prop where
 path:c.path.length≤1048576
 to:c.to.length≤1048576
 data:c.data.length≤1048576
theorem abv_small{l:List Nd}{p:Txt}{dir:Int}{s:Txt}(h:abvN l p=(dir,s,0)):s.length≤80:=by
 obtain⟨ns,hn, -, -⟩:=abv_names h
 exact nameOk_len (names_ok hn s (by simp))
end Go.Gw
namespace Go.Proofs.YthhdnjiodklmmaaGreatDoor
open Go Go.Aw Go.Gw
set_option linter.unusedSimpArgs false
set_option linter.unusedVariables false
set_option maxRecDepth 20000
set_option maxHeartbeats 4000000
theorem dborn_c{i j:Nat}{c:Cal}{d:Dsk}{G:AHeap}(hb:KB i j c d G)(hs:DS d.m)(hc:CS c)(hl:d.ops.length≤1000000):aJ5 Tryz.prog 67 i j c (aMc c d) G:=by
 refine bQ Tryz.func67 rfl (Nat.le_of_ble_eq_true rfl) ?_
 have r0:=hb.b1;have r1:=aZ hb.b1 trivial;have r2:=aZ hb.b2 trivial;have hne:=hb.ne;have hl1:=hb.lt1;have hl2:=hb.lt2;have r3:=hb.r3;have r4:=hb.r4;have hnl:=aI G i;simp only[dkC]at r0 r1;have qs:=yN hl1 hl2 hne rfl
 unfold aMc
 by_cases h1:c.path=[47]
 ·have d1:decide (c.path=[47])=true:=decide_eq_true h1
  rw[if_pos h1]
  repeat' first|(refine gS ?_;simp only[go_sem,r0,r1,r2,r3,r4,hnl,qs,aI,d1])|refine gA ?_|(refine gD (fun h=>?_) (fun h=>?_)<;>try exact aB h)|fail
  exact aJ4 hb rfl hb.own.symm
 have d1:decide (c.path=[47])=false:=decide_eq_false h1
 rw[if_neg h1]
 have hab:=bEP false d.m.log.nodes c.path (by have:=hs.nodes;omega) hc.path
 obtain⟨⟨dir,s,e⟩,ha⟩:∃x,abvN d.m.log.nodes c.path=x:=⟨_,rfl⟩
 rw[ha]at hab ⊢
 simp only[aJ6]at hab
 by_cases he:e=0
 ·subst he
  simp only[if_true]
  have hch:=aDm false d.m.log.nodes dir s (by have:=hs.nodes;omega)
  cases hcn:childN d.m.log.nodes dir s with
  |some n=>
   simp only[hcn,zX,Option.map_some,Option.getD_some,Option.isSome_some]at hch
   simp only[Option.isSome_some,if_true]
   have ct0:=ct hab aPQ;have ct1:=ct hch rQ;repeat' first|((first|refine gK ?_|refine gS ?_);simp only[go_sem,r0,r1,r2,r3,r4,hnl,qs,aI,d1])|refine gA ?_|(refine gD (fun h=>?_) (fun h=>?_)<;>try exact aB h)|fail
   exact aJ4 hb rfl hb.own.symm
  |none=>
   simp only[hcn,zX,Option.map_none,Option.getD_none,Option.isSome_none]at hch
   rw[if_neg (by simp)]
   have hnx:=fun L=>aJ7 j c d i (by have:=hs.ents;omega) (G++L) (hb.app L).b1
   have hnx0:=aJ7 j c d i (by have:=hs.ents;omega) G hb.b1
   obtain⟨⟨st,f⟩,hn⟩:∃x,nextD d.m=x:=⟨_,rfl⟩
   simp only[hn,stA]at hnx hnx0 ⊢
   by_cases hf:f=0
   ·subst hf
    rw[if_pos rfl]
    have hid:=bEZ st.c st.r (decide (c.kind=1))
    have ct0:=ct hab aPQ;have ct1:=ct hch rQ;have ct2:=ct hid aPR;repeat' first|((first|refine gK ?_|refine aV (hnx0) iJ ?_|refine aW (hnx0) iJ ?_|refine aX (fun _=>hnx0) iJ ?_|refine gS ?_);simp only[go_sem,r0,r1,r2,r3,r4,hnl,qs,aI,d1])|refine gA ?_|(refine gD (fun h=>?_) (fun h=>?_)<;>try exact aB h)|fail
    refine bJ (bDv (hb.app _) hs (o:=⟨st0,1,idI st.c st.r (decide (c.kind=1)),dir,s,[]⟩) ⟨by have:=abv_small ha;simp only;omega,by simp⟩ hl) aPS ?_
    rintro v H' ⟨rfl,rfl⟩
    rw[hb.happ]
    simp only[go_sem]
    repeat' first|(refine gS ?_;simp only[go_sem])|refine gA ?_|(refine gD (fun h=>?_) (fun h=>?_)<;>try exact aB h)|fail
    exact sC hb rfl rfl
   ·have hd:decide (f=0)=false:=decide_eq_false hf
    rw[if_neg hf]
    have ct0:=ct hab aPQ;have ct1:=ct hch rQ;repeat' first|((first|refine gK ?_|refine aV (hnx0) iJ ?_|refine aW (hnx0) iJ ?_|refine aX (fun _=>hnx0) iJ ?_|refine gS ?_);simp only[go_sem,r0,r1,r2,r3,r4,hnl,qs,aI,d1,hd])|refine gA ?_|(refine gD (fun h=>?_) (fun h=>?_)<;>try exact aB h)|fail
    exact sC hb rfl hb.own.symm
 ·have hd:decide (e=0)=false:=decide_eq_false he
  simp only[if_neg he]
  have ct0:=ct hab aPQ;repeat' first|((first|refine gK ?_|refine gS ?_);simp only[go_sem,r0,r1,r2,r3,r4,hnl,qs,aI,d1,hd])|refine gA ?_|(refine gD (fun h=>?_) (fun h=>?_)<;>try exact aB h)|fail
  exact aJ4 hb rfl hb.own.symm
theorem dwrite_c{i j:Nat}{c:Cal}{d:Dsk}{G:AHeap}(hb:KB i j c d G)(hs:DS d.m)(hc:CS c)(hl:d.ops.length≤1000000):aJ5 Tryz.prog 68 i j c (aGv c d) G:=by
 refine bQ Tryz.func68 rfl (Nat.le_of_ble_eq_true rfl) ?_
 have r0:=hb.b1;have r1:=aZ hb.b1 trivial;have r2:=aZ hb.b2 trivial;have hne:=hb.ne;have hl1:=hb.lt1;have hl2:=hb.lt2;have r3:=hb.r3;have r4:=hb.r4;have hnl:=aI G i;simp only[dkC]at r0 r1;have qs:=yN hl1 hl2 hne rfl
 unfold aGv
 have hat:=bEy false d.m.log.nodes c.path (by have:=hs.nodes;omega) hc.path
 obtain⟨⟨id,e⟩,ha⟩:∃x,atN d.m.log.nodes c.path=x:=⟨_,rfl⟩
 rw[ha]at hat ⊢
 simp only[aA9]at hat
 by_cases he:e=0
 ·subst he
  simp only[if_true]
  have hdd:=yC id
  cases hdi:dirI id with
  |true=>
   rw[hdi]at hdd
   rw[if_pos rfl]
   have ct0:=ct hat lQ;have ct1:=ct hdd eG;repeat' first|((first|refine gK ?_|refine gS ?_);simp only[go_sem,r0,r1,r2,r3,r4,hnl,qs,aI])|refine gA ?_|(refine gD (fun h=>?_) (fun h=>?_)<;>try exact aB h)|fail
   exact aJ4 hb rfl hb.own.symm
  |false=>
   rw[hdi]at hdd
   rw[if_neg (by simp)]
   have ct0:=ct hat lQ;have ct1:=ct hdd eG;repeat' first|((first|refine gK ?_|refine gS ?_);simp only[go_sem,r0,r1,r2,r3,r4,hnl,qs,aI])|refine gA ?_|(refine gD (fun h=>?_) (fun h=>?_)<;>try exact aB h)|fail
   refine bJ (bDv hb hs (o:=⟨st0,2,id,0,[],c.data⟩) ⟨by simp,by have:=hc.data;simp only;omega⟩ hl) aPS ?_
   rintro v H' ⟨rfl,rfl⟩
   simp only[go_sem]
   repeat' first|(refine gS ?_;simp only[go_sem])|refine gA ?_|(refine gD (fun h=>?_) (fun h=>?_)<;>try exact aB h)|fail
   exact aJ4 hb rfl rfl
 ·have hd:decide (e=0)=false:=decide_eq_false he
  simp only[if_neg he]
  have ct0:=ct hat lQ;repeat' first|((first|refine gK ?_|refine gS ?_);simp only[go_sem,r0,r1,r2,r3,r4,hnl,qs,aI,hd])|refine gA ?_|(refine gD (fun h=>?_) (fun h=>?_)<;>try exact aB h)|fail
  exact aJ4 hb rfl hb.own.symm
theorem nodesD_len{m:Mdl}(hs:DS m){n:Int}{l:List Nd}(h:gN m n=some l):l.length≤1000000:=by
 unfold gN at h
 split at h
 ·cases h;exact hs.nodes
 ·obtain⟨s,hf,rfl⟩:=Option.map_eq_some_iff.1 h
  exact hs.snap s (List.mem_of_find?_eq_some hf)
theorem dread_c{i j:Nat}{c:Cal}{d:Dsk}{G:AHeap}(hb:KB i j c d G)(hs:DS d.m)(hc:CS c)(hsm:∀l,gN d.m c.n=some l→SmN l):aJ5 Tryz.prog 69 i j c (vZ c d) G:=by
 refine bQ Tryz.func69 rfl (Nat.le_of_ble_eq_true rfl) ?_
 have r0:=hb.b1;have r1:=aZ hb.b1 trivial;have r2:=aZ hb.b2 trivial;have hne:=hb.ne;have hl1:=hb.lt1;have hl2:=hb.lt2;have r3:=hb.r3;have r4:=hb.r4;have hnl:=aI G i;simp only[dkC]at r0 r1;have qs:=yN hl1 hl2 hne rfl
 unfold vZ
 have hnd:=bDu d.m c.n i _ hs.snaps G hb.b1
 cases hn:gN d.m c.n with
 |none=>
  rw[hn]at hnd
  simp only[aRe]at hnd
  repeat' first|((first|refine aV (hnd) aPT ?_|refine aW (hnd) aPT ?_|refine aX (fun _=>hnd) aPT ?_|refine gS ?_);simp only[go_sem,r0,r1,r2,r3,r4,hnl,qs,aI])|refine gA ?_|(refine gD (fun h=>?_) (fun h=>?_)<;>try exact aB h)|fail
  exact aJ4 hb rfl hb.own.symm
 |some l=>
  rw[hn]at hnd
  simp only[aRe]at hnd
  have hl:l.length≤1000000:=nodesD_len hs hn
  have hat:=bEy false l c.path (by omega) hc.path
  simp only
  obtain⟨⟨id,e⟩,ha⟩:∃x,atN l c.path=x:=⟨_,rfl⟩
  rw[ha]at hat ⊢
  simp only[aA9]at hat
  by_cases he:e=0
  ·subst he
   simp only[if_true]
   have hdd:=yC id
   cases hdi:dirI id with
   |true=>
    rw[hdi]at hdd
    rw[if_pos rfl]
    have ct0:=ct hat lQ;have ct1:=ct hdd eG;repeat' first|((first|refine gK ?_|refine aV (hnd) aPT ?_|refine aW (hnd) aPT ?_|refine aX (fun _=>hnd) aPT ?_|refine gS ?_);simp only[go_sem,r0,r1,r2,r3,r4,hnl,qs,aI])|refine gA ?_|(refine gD (fun h=>?_) (fun h=>?_)<;>try exact aB h)|fail
    exact aJ4 hb rfl hb.own.symm
   |false=>
    rw[hdi]at hdd
    rw[if_neg (by simp)]
    have hf:=bEm false l id
    simp only[ndV,ndA]at hf
    have ct0:=ct hat lQ;have ct1:=ct hdd eG;have ct2:=ct hf aPU;repeat' first|((first|refine gK ?_|refine aV (hnd) aPT ?_|refine aW (hnd) aPT ?_|refine aX (fun _=>hnd) aPT ?_|refine gS ?_);simp only[go_sem,r0,r1,r2,r3,r4,hnl,qs,aI])|refine gA ?_|(refine gD (fun h=>?_) (fun h=>?_)<;>try exact aB h)|fail
    exact sC hb rfl (hb.one (d':={d with a:={d.a with data:=((findI l id).getD nd0).data}}) rfl)
  ·have hd:decide (e=0)=false:=decide_eq_false he
   simp only[if_neg he]
   have ct0:=ct hat lQ;repeat' first|((first|refine gK ?_|refine aV (hnd) aPT ?_|refine aW (hnd) aPT ?_|refine aX (fun _=>hnd) aPT ?_|refine gS ?_);simp only[go_sem,r0,r1,r2,r3,r4,hnl,qs,aI,hd])|refine gA ?_|(refine gD (fun h=>?_) (fun h=>?_)<;>try exact aB h)|fail
   exact aJ4 hb rfl hb.own.symm
theorem dls_c{i j:Nat}{c:Cal}{d:Dsk}{G:AHeap}(hb:KB i j c d G)(hs:DS d.m)(hc:CS c)(hsm:∀l,gN d.m c.n=some l→SmN l):aJ5 Tryz.prog 72 i j c (lsD c d) G:=by
 refine bQ Tryz.func72 rfl (Nat.le_of_ble_eq_true rfl) ?_
 have r0:=hb.b1;have r1:=aZ hb.b1 trivial;have r2:=aZ hb.b2 trivial;have hne:=hb.ne;have hl1:=hb.lt1;have hl2:=hb.lt2;have r3:=hb.r3;have r4:=hb.r4;have hnl:=aI G i;simp only[dkC]at r0 r1;have qs:=yN hl1 hl2 hne rfl
 unfold lsD
 have hnd:=bDu d.m c.n i _ hs.snaps G hb.b1
 cases hn:gN d.m c.n with
 |none=>
  rw[hn]at hnd
  simp only[aRe]at hnd
  repeat' first|((first|refine aV (hnd) aPT ?_|refine aW (hnd) aPT ?_|refine aX (fun _=>hnd) aPT ?_|refine gS ?_);simp only[go_sem,r0,r1,r2,r3,r4,hnl,qs,aI])|refine gA ?_|(refine gD (fun h=>?_) (fun h=>?_)<;>try exact aB h)|fail
  exact aJ4 hb rfl hb.own.symm
 |some l=>
  rw[hn]at hnd
  simp only[aRe]at hnd
  have hl:l.length≤1000000:=nodesD_len hs hn
  have hat:=bEy false l c.path (by omega) hc.path
  simp only
  obtain⟨⟨id,e⟩,ha⟩:∃x,atN l c.path=x:=⟨_,rfl⟩
  rw[ha]at hat ⊢
  simp only[aA9]at hat
  by_cases he:e=0
  ·subst he
   simp only[if_true]
   have hdd:=yC id
   cases hdi:dirI id with
   |true=>
    rw[hdi]at hdd
    rw[if_pos rfl]
    have hf:=vlist_c false l id (by omega) (hsm l hn)
    have ct0:=ct hat lQ;have ct1:=ct hdd eG;have ct2:=ct hf aPV;repeat' first|((first|refine gK ?_|refine aV (hnd) aPT ?_|refine aW (hnd) aPT ?_|refine aX (fun _=>hnd) aPT ?_|refine gS ?_);simp only[go_sem,r0,r1,r2,r3,r4,hnl,qs,aI])|refine gA ?_|(refine gD (fun h=>?_) (fun h=>?_)<;>try exact aB h)|fail
    exact aJ4 hb rfl (hb.one (d':={d with a:={d.a with names:=aGu l id}}) rfl)
   |false=>
    rw[hdi]at hdd
    rw[if_neg (by simp)]
    have ct0:=ct hat lQ;have ct1:=ct hdd eG;repeat' first|((first|refine gK ?_|refine aV (hnd) aPT ?_|refine aW (hnd) aPT ?_|refine aX (fun _=>hnd) aPT ?_|refine gS ?_);simp only[go_sem,r0,r1,r2,r3,r4,hnl,qs,aI])|refine gA ?_|(refine gD (fun h=>?_) (fun h=>?_)<;>try exact aB h)|fail
    exact aJ4 hb rfl hb.own.symm
  ·have hd:decide (e=0)=false:=decide_eq_false he
   simp only[if_neg he]
   have ct0:=ct hat lQ;repeat' first|((first|refine gK ?_|refine aV (hnd) aPT ?_|refine aW (hnd) aPT ?_|refine aX (fun _=>hnd) aPT ?_|refine gS ?_);simp only[go_sem,r0,r1,r2,r3,r4,hnl,qs,aI,hd])|refine gA ?_|(refine gD (fun h=>?_) (fun h=>?_)<;>try exact aB h)|fail
   exact aJ4 hb rfl hb.own.symm
theorem dremove_c{i j:Nat}{c:Cal}{d:Dsk}{G:AHeap}(hb:KB i j c d G)(hs:DS d.m)(hc:CS c)(hl:d.ops.length≤1000000):aJ5 Tryz.prog 71 i j c (aDj c d) G:=by
 refine bQ Tryz.func71 rfl (Nat.le_of_ble_eq_true rfl) ?_
 have r0:=hb.b1;have r1:=aZ hb.b1 trivial;have r2:=aZ hb.b2 trivial;have hne:=hb.ne;have hl1:=hb.lt1;have hl2:=hb.lt2;have r3:=hb.r3;have r4:=hb.r4;have hnl:=aI G i;simp only[dkC]at r0 r1;have qs:=yN hl1 hl2 hne rfl
 unfold aDj
 by_cases h1:c.path=[47]
 ·have d1:decide (c.path=[47])=true:=decide_eq_true h1
  rw[if_pos h1]
  repeat' first|(refine gS ?_;simp only[go_sem,r0,r1,r2,r3,r4,hnl,qs,aI,d1])|refine gA ?_|(refine gD (fun h=>?_) (fun h=>?_)<;>try exact aB h)|fail
  exact aJ4 hb rfl hb.own.symm
 have d1:decide (c.path=[47])=false:=decide_eq_false h1
 rw[if_neg h1]
 have hat:=bEy false d.m.log.nodes c.path (by have:=hs.nodes;omega) hc.path
 obtain⟨⟨id,e⟩,ha⟩:∃x,atN d.m.log.nodes c.path=x:=⟨_,rfl⟩
 rw[ha]at hat ⊢
 simp only[aA9]at hat
 by_cases he:e=0
 ·subst he
  simp only[if_true]
  have hsp:=aCv c.path hc.path
  unfold tB at hsp
  cases hn:fZ c.path with
  |none=>
   simp only[hn]at hsp
   have ct0:=ct hat lQ;have ct1:=ct hsp eN;repeat' first|((first|refine gK ?_|refine gS ?_);simp only[go_sem,r0,r1,r2,r3,r4,hnl,qs,aI,d1])|refine gA ?_|(refine gD (fun h=>?_) (fun h=>?_)<;>try exact aB h)|fail
   exact aJ4 hb rfl hb.own.symm
  |some ns=>
   simp only[hn,d1]at hsp
   cases ns with
   |nil=>
    have ct0:=ct hat lQ;have ct1:=ct hsp eN;repeat' first|((first|refine gK ?_|refine gS ?_);simp only[go_sem,r0,r1,r2,r3,r4,hnl,qs,aI,d1])|refine gA ?_|(refine gD (fun h=>?_) (fun h=>?_)<;>try exact aB h)|fail
    exact aJ4 hb rfl hb.own.symm
   |cons x xs=>
    have hlen:=aA2 hn
    rw[List.length_cons]at hlen
    have hw:IntKind.i64.wrap (((xs.length+1:Nat):Int)-1)=(xs.length:Int):=by rw[wrap_i64 (by omega) (by omega)];omega
    have hd:decide (((xs.length+1:Nat):Int)=0)=false:=decide_eq_false (by omega)
    have hgd:(AV.str x::xs.map AV.str).getD xs.length .top=.str ((x::xs).getLast (by simp)):=by
     rw[←List.map_cons (f:=AV.str),bF AV.str (by simp),List.getLast_eq_getElem];simp
    have hlt:xs.length<xs.length+1:=Nat.lt_succ_self _
    have hsm:((x::xs).getLast (by simp)).length≤80:=nameOk_len (names_ok hn _ (List.getLast_mem _))
    obtain⟨s,hse⟩:∃s,(x::xs).getLast (by simp)=s:=⟨_,rfl⟩
    rw[hse]at hgd hsm
    simp only[hse]
    have ct0:=ct hat lQ;have ct1:=ct hsp eN;repeat' first|((first|refine gK ?_|refine gS ?_);simp only[go_sem,r0,r1,r2,r3,r4,hnl,qs,aI,d1,hw,hd,hgd,hlt])|refine gA ?_|(refine gD (fun h=>?_) (fun h=>?_)<;>try exact aB h)|fail
    refine bJ (bDv hb hs (o:=⟨st0,1,id,2,s,[]⟩) ⟨by simp only;omega,by simp⟩ hl) aPS ?_
    rintro v H' ⟨rfl,rfl⟩
    simp only[go_sem]
    repeat' first|(refine gS ?_;simp only[go_sem])|refine gA ?_|(refine gD (fun h=>?_) (fun h=>?_)<;>try exact aB h)|fail
    exact aJ4 hb rfl rfl
 ·have hd:decide (e=0)=false:=decide_eq_false he
  simp only[if_neg he]
  have ct0:=ct hat lQ;repeat' first|((first|refine gK ?_|refine gS ?_);simp only[go_sem,r0,r1,r2,r3,r4,hnl,qs,aI,d1,hd])|refine gA ?_|(refine gD (fun h=>?_) (fun h=>?_)<;>try exact aB h)|fail
  exact aJ4 hb rfl hb.own.symm
theorem dmove_c{i j:Nat}{c:Cal}{d:Dsk}{G:AHeap}(hb:KB i j c d G)(hs:DS d.m)(hc:CS c)(hl:d.ops.length≤1000000):aJ5 Tryz.prog 70 i j c (aMd c d) G:=by
 refine bQ Tryz.func70 rfl (Nat.le_of_ble_eq_true rfl) ?_
 have r0:=hb.b1;have r1:=aZ hb.b1 trivial;have r2:=aZ hb.b2 trivial;have hne:=hb.ne;have hl1:=hb.lt1;have hl2:=hb.lt2;have r3:=hb.r3;have r4:=hb.r4;have hnl:=aI G i;simp only[dkC]at r0 r1;have qs:=yN hl1 hl2 hne rfl
 unfold aMd
 by_cases h1:c.path=[47]
 ·have d1:decide (c.path=[47])=true:=decide_eq_true h1
  rw[if_pos (.inl h1)]
  repeat' first|(refine gS ?_;simp only[go_sem,r0,r1,r2,r3,r4,hnl,qs,aI,d1])|refine gA ?_|(refine gD (fun h=>?_) (fun h=>?_)<;>try exact aB h)|fail
  exact aJ4 hb rfl hb.own.symm
 have d1:decide (c.path=[47])=false:=decide_eq_false h1
 by_cases h2:c.to=[47]
 ·have d2:decide (c.to=[47])=true:=decide_eq_true h2
  rw[if_pos (.inr h2)]
  repeat' first|(refine gS ?_;simp only[go_sem,r0,r1,r2,r3,r4,hnl,qs,aI,d1,d2])|refine gA ?_|(refine gD (fun h=>?_) (fun h=>?_)<;>try exact aB h)|fail
  exact aJ4 hb rfl hb.own.symm
 have d2:decide (c.to=[47])=false:=decide_eq_false h2
 rw[if_neg (by rintro(h|h)<;>contradiction)]
 have hat:=bEy false d.m.log.nodes c.path (by have:=hs.nodes;omega) hc.path
 obtain⟨⟨id,e⟩,ha⟩:∃x,atN d.m.log.nodes c.path=x:=⟨_,rfl⟩
 rw[ha]at hat ⊢
 simp only[aA9]at hat
 by_cases he:e=0
 ·subst he
  simp only[if_true]
  have hab:=bEP false d.m.log.nodes c.to (by have:=hs.nodes;omega) hc.to
  obtain⟨⟨dir,s,f⟩,hbv⟩:∃x,abvN d.m.log.nodes c.to=x:=⟨_,rfl⟩
  rw[hbv]at hab ⊢
  simp only[aJ6]at hab
  by_cases hf:f=0
  ·subst hf
   simp only[if_true]
   have hch:=aDm false d.m.log.nodes dir s (by have:=hs.nodes;omega)
   cases hcn:childN d.m.log.nodes dir s with
   |some n=>
    simp only[hcn,zX,Option.map_some,Option.getD_some,Option.isSome_some]at hch
    simp only[Option.isSome_some,if_true]
    have ct0:=ct hat lQ;have ct1:=ct hab aPQ;have ct2:=ct hch rQ;repeat' first|((first|refine gK ?_|refine gS ?_);simp only[go_sem,r0,r1,r2,r3,r4,hnl,qs,aI,d1,d2])|refine gA ?_|(refine gD (fun h=>?_) (fun h=>?_)<;>try exact aB h)|fail
    exact aJ4 hb rfl hb.own.symm
   |none=>
    simp only[hcn,zX,Option.map_none,Option.getD_none,Option.isSome_none]at hch
    rw[if_neg (by simp)]
    by_cases hdi:dir=id
    ·have dd:decide (dir=id)=true:=decide_eq_true hdi
     rw[if_pos (.inl hdi)]
     have ct0:=ct hat lQ;have ct1:=ct hab aPQ;have ct2:=ct hch rQ;repeat' first|((first|refine gK ?_|refine gS ?_);simp only[go_sem,r0,r1,r2,r3,r4,hnl,qs,aI,d1,d2,dd])|refine gA ?_|(refine gD (fun h=>?_) (fun h=>?_)<;>try exact aB h)|fail
     exact aJ4 hb rfl hb.own.symm
    have dd:decide (dir=id)=false:=decide_eq_false hdi
    have hup:=bBZ false d.m.log.nodes dir (by have:=hs.nodes;omega)
    have hct:=vR false (zL d.m.log.nodes dir) id
    have hca:((zL d.m.log.nodes dir).any fun x=>decide (x=id))=(zL d.m.log.nodes dir).contains id:=by rw[Bool.eq_iff_iff];simp
    cases hin:(zL d.m.log.nodes dir).contains id with
    |true=>
     rw[if_pos (.inr rfl)]
     simp only[hca,hin]at hct
     have ct0:=ct hat lQ;have ct1:=ct hab aPQ;have ct2:=ct hch rQ;have ct3:=ct hup aXI;have ct4:=ct hct oO;repeat' first|((first|refine gK ?_|refine gS ?_);simp only[go_sem,r0,r1,r2,r3,r4,hnl,qs,aI,d1,d2,dd])|refine gA ?_|(refine gD (fun h=>?_) (fun h=>?_)<;>try exact aB h)|fail
     exact aJ4 hb rfl hb.own.symm
    |false=>
     rw[if_neg (by rintro(h|h)<;>contradiction)]
     simp only[hca,hin]at hct
     have ct0:=ct hat lQ;have ct1:=ct hab aPQ;have ct2:=ct hch rQ;have ct3:=ct hup aXI;have ct4:=ct hct oO;repeat' first|((first|refine gK ?_|refine gS ?_);simp only[go_sem,r0,r1,r2,r3,r4,hnl,qs,aI,d1,d2,dd])|refine gA ?_|(refine gD (fun h=>?_) (fun h=>?_)<;>try exact aB h)|fail
     refine bJ (bDv hb hs (o:=⟨st0,1,id,dir,s,[]⟩) ⟨by have:=abv_small hbv;simp only;omega,by simp⟩ hl) aPS ?_
     rintro v H' ⟨rfl,rfl⟩
     simp only[go_sem]
     repeat' first|(refine gS ?_;simp only[go_sem])|refine gA ?_|(refine gD (fun h=>?_) (fun h=>?_)<;>try exact aB h)|fail
     exact aJ4 hb rfl rfl
  ·have hd:decide (f=0)=false:=decide_eq_false hf
   simp only[if_neg hf]
   have ct0:=ct hat lQ;have ct1:=ct hab aPQ;repeat' first|((first|refine gK ?_|refine gS ?_);simp only[go_sem,r0,r1,r2,r3,r4,hnl,qs,aI,d1,d2,hd])|refine gA ?_|(refine gD (fun h=>?_) (fun h=>?_)<;>try exact aB h)|fail
   exact aJ4 hb rfl hb.own.symm
 ·have hd:decide (e=0)=false:=decide_eq_false he
  simp only[if_neg he]
  have ct0:=ct hat lQ;repeat' first|((first|refine gK ?_|refine gS ?_);simp only[go_sem,r0,r1,r2,r3,r4,hnl,qs,aI,d1,d2,hd])|refine gA ?_|(refine gD (fun h=>?_) (fun h=>?_)<;>try exact aB h)|fail
  exact aJ4 hb rfl hb.own.symm
end Go.Proofs.YthhdnjiodklmmaaGreatDoor
/- Maps ars blocks: sets of numbers; entries that are deleted while they are gone through. In plain Lean. No condition. -/
namespace Go.Aw
open Go
structure OutOk (xs:List Int) (es:List (AV×AV×Nat)):Prop where
 ki:keysIn (.int .i64) es
 at_:∀x:Int,(keyAt (.int .i64 x) es).map (·.2)=if x∈xs then some (.bool true)else none
 cl:∀n,∀p∈es,Cl n p.1∧Cl n p.2.1
theorem out_nil:OutOk [] []:=⟨fun p hp=>(by cases hp),fun x=>rfl,fun n p hp=>(by cases hp)⟩
theorem putKey_at(y:Int)(clock:Nat):∀(es:List (AV×AV×Nat)),keysIn (.int .i64) es→keysIn (.int .i64) (rC (.int .i64 y) (.bool true) es clock)∧
  (∀x:Int,(keyAt (.int .i64 x) (rC (.int .i64 y) (.bool true) es clock)).map (·.2)=if x=y then some (.bool true)else(keyAt (.int .i64 x) es).map (·.2)):=by
 intro es
 induction es with
 |nil=>
  intro _
  refine⟨fun p hp=>?_,fun x=>?_⟩
  ·simp only[rC,keyAt,List.nil_append,List.mem_singleton]at hp
   subst hp;rfl
  ·simp only[rC,keyAt,List.nil_append,sU]
   by_cases h:x=y<;>simp[h]
 |cons q es ih=>
  obtain⟨k,w,b⟩:=q
  intro hk
  have hk0:aYy (.int .i64) k=true:=hk (k,w,b) (by simp)
  have hk1:keysIn (.int .i64) es:=fun p hp=>hk p (List.mem_cons_of_mem _ hp)
  cases k<;>simp only[aYy,Bool.false_eq_true]at hk0
  rename_i kk z
  rw[decide_eq_true_eq]at hk0
  subst hk0
  by_cases hyz:y=z
  ·subst hyz
   have e:rC (.int .i64 y) (.bool true) ((AV.int .i64 y,w,b)::es) clock=(.int .i64 y,.bool true,b)::es:=by simp[rC,keyAt,sU]
   rw[e]
   refine⟨fun p hp=>?_,fun x=>?_⟩
   ·rcases List.mem_cons.1 hp with rfl|hp
    ·rfl
    ·exact hk1 p hp
   ·simp only[keyAt,sU]
    by_cases h:x=y<;>simp[h]
  ·have hne:sU (.int .i64 y) (.int .i64 z)=false:=by simp[sU,hyz]
   rw[Go.Gw.aAS hne]
   obtain⟨i1,i2⟩:=ih hk1
   refine⟨fun p hp=>?_,fun x=>?_⟩
   ·rcases List.mem_cons.1 hp with rfl|hp
    ·rfl
    ·exact i1 p hp
   ·have:=i2 x
    simp only[keyAt,sU]
    by_cases h:x=z
    ·subst h
     have hxy:¬x=y:=fun e=>hyz e.symm
     simp[hxy]
    ·simp only[decide_eq_false h,cond_false,Option.map_map]
     by_cases hxy:x=y
     ·rw[if_pos hxy]at this ⊢
      cases hkk:keyAt (.int .i64 x) (rC (.int .i64 y) (.bool true) es clock)with
      |none=>rw[hkk]at this;cases this
      |some v=>rw[hkk]at this;simpa using this
     ·rw[if_neg hxy]at this ⊢
      cases hkk:keyAt (.int .i64 x) (rC (.int .i64 y) (.bool true) es clock)with
      |none=>rw[hkk]at this;cases hk2:keyAt (.int .i64 x) es with
       |none=>rfl
       |some v=>rw[hk2]at this;cases this
      |some v=>rw[hkk]at this;cases hk2:keyAt (.int .i64 x) es with
       |none=>rw[hk2]at this;cases this
       |some u=>rw[hk2]at this;simpa using this
theorem putKey_cl{n:Nat}{x v:AV}(hx:Cl n x)(hv:Cl n v){es:List (AV×AV×Nat)}(h:∀p∈es,Cl n p.1∧Cl n p.2.1)(clock:Nat):∀p∈rC x v es clock,Cl n p.1∧Cl n p.2.1:=by
 intro p hp
 unfold rC at hp
 split at hp
 ·obtain⟨j,hj⟩:=List.mem_iff_getElem?.1 hp
  rw[List.getElem?_modify]at hj
  cases hq:es[j]? with
  |none=>rw[hq]at hj;cases hj
  |some q=>
   rw[hq]at hj
   simp only[Option.map_eq_map,Option.map_some,Option.some.injEq]at hj
   have hm:=h q (List.mem_of_getElem? hq)
   subst hj
   split
   ·exact⟨hx,hv⟩
   ·exact hm
 ·rcases List.mem_append.1 hp with hp|hp
  ·exact h p hp
  ·rw[List.mem_singleton]at hp;subst hp;exact⟨hx,hv⟩
theorem out_put{xs:List Int}{es:List (AV×AV×Nat)}(h:OutOk xs es)(y:Int)(clock:Nat):OutOk (xs++[y]) (rC (.int .i64 y) (.bool true) es clock):=by
 obtain⟨i1,i2⟩:=putKey_at y clock es h.ki
 refine⟨i1,fun x=>?_,fun n=>putKey_cl (.int _ _) (.bool _) (h.cl n) clock⟩
 rw[i2,h.at_]
 by_cases h1:x=y
 ·simp[h1]
 ·by_cases h2:x∈xs<;>simp[h1,h2]
structure StrK (es:List (AV×AV×Nat)):Prop where
 ki:keysIn .string es
 nd:(es.map (·.1)).Nodup
theorem StrK.filter{es:List (AV×AV×Nat)}(h:StrK es)(f:AV×AV×Nat→Bool):StrK (es.filter f):=
 ⟨fun p hp=>h.ki p (List.mem_filter.1 hp).1,List.Nodup.sublist (List.Sublist.map _ List.filter_sublist) h.nd⟩
theorem StrK.at_{es:List (AV×AV×Nat)}(h:StrK es){p:AV×AV×Nat}(hp:p∈es){s:List UInt8}(hs:p.1=.str s):∃j,keyAt (.str s) es=some (j,p.2.1)∧es[j]?=some p:=by
 obtain⟨hk,hn⟩:=h
 induction es with
 |nil=>cases hp
 |cons q es ih=>
  obtain⟨k,w,b⟩:=q
  rw[List.map_cons,List.nodup_cons]at hn
  have hk0:aYy .string k=true:=hk (k,w,b) (by simp)
  cases k<;>simp only[aYy,Bool.false_eq_true]at hk0
  rename_i t
  rcases List.mem_cons.1 hp with rfl|hp'
  ·simp only at hs
   cases hs
   exact⟨0,by simp[keyAt,sU],rfl⟩
  ·have hne:¬s=t:=fun e=>hn.1 (by subst e;rw[←hs];exact List.mem_map.2 ⟨p,hp',rfl⟩)
   obtain⟨j,h1,h2⟩:=ih hp' (fun p hp=>hk p (List.mem_cons_of_mem _ hp)) hn.2
   exact⟨j+1,by simp[keyAt,sU,hne,h1],by simpa using h2⟩
theorem erase_filter{α β:Type}[BEq β][LawfulBEq β](f:α→β):∀(l:List α) (j:Nat) (p:α),(l.map f).Nodup→l[j]?=some p→l.eraseIdx j=l.filter (fun q=> !(f q==f p)):=by
 intro l
 induction l with
 |nil=>intro j p _ h;cases h
 |cons x l ih=>
  intro j p hn h
  rw[List.map_cons,List.nodup_cons]at hn
  cases j with
  |zero=>
   cases h
   rw[List.eraseIdx_cons_zero,List.filter_cons,if_neg (by simp)]
   symm
   rw[List.filter_eq_self]
   intro q hq
   simp only[Bool.not_eq_true',beq_eq_false_iff_ne]
   intro e
   exact hn.1 (e▸List.mem_map.2 ⟨q,hq,rfl⟩)
  |succ j=>
   rw[List.getElem?_cons_succ]at h
   rw[List.eraseIdx_cons_succ,List.filter_cons,if_pos,ih j p hn.2 h]
   simp only[Bool.not_eq_true',beq_eq_false_iff_ne]
   intro e
   exact hn.1 (e▸List.mem_map.2 ⟨p,List.mem_of_getElem? h,rfl⟩)
theorem del_filter{es:List (AV×AV×Nat)}{clock:Nat}(h:StrK es)(ho:MpOk es clock){p:AV×AV×Nat}(hp:p∈es){s:List UInt8}(hs:p.1=.str s):delKey (.str s) es=es.filter fun q=> !(q.2.2==p.2.2):=by
 obtain⟨j,h1,h2⟩:=h.at_ hp hs
 unfold delKey
 rw[h1]
 exact erase_filter (fun q:AV×AV×Nat=>q.2.2) es j p ho.nd h2
def lessE(es:List (AV×AV×Nat))(o:AV×AV×Nat→Bool)(ps:List (AV×AV×Nat)):List (AV×AV×Nat):=es.filter fun q=> !((ps.map (·.2.2)).contains q.2.2&&o q)
theorem lessE_nil(es:List (AV×AV×Nat))(o:AV×AV×Nat→Bool):lessE es o []=es:=by
 unfold lessE;rw[List.filter_eq_self];intro q _;simp
theorem same_birth{es:List (AV×AV×Nat)}{clock:Nat}(ho:MpOk es clock){p q:AV×AV×Nat}(hp:p∈es)(hq:q∈es)(e:q.2.2=p.2.2):q=p:=by
 have e1:=ho.find hp
 have e2:=ho.find hq
 rw[e,e1]at e2
 cases e2;rfl
theorem contains_app(a:List Nat)(b x:Nat):(a++[b]).contains x=(a.contains x||x==b):=by
 rw[Bool.eq_iff_iff,List.contains_iff_mem,Bool.or_eq_true,List.contains_iff_mem,beq_iff_eq,List.mem_append,List.mem_singleton]
theorem lessE_yes{es:List (AV×AV×Nat)}{clock:Nat}(ho:MpOk es clock){o:AV×AV×Nat→Bool}{ps:List (AV×AV×Nat)}{p:AV×AV×Nat}(hp:p∈es)(h:o p=true):lessE es o (ps++[p])=(lessE es o ps).filter fun q=> !(q.2.2==p.2.2):=by
 unfold lessE
 rw[List.filter_filter]
 refine List.filter_congr fun q hq=>?_
 simp only[List.map_append,List.map_cons,List.map_nil]
 by_cases e:q.2.2=p.2.2
 ·have:=same_birth ho hp hq e
  subst this
  simp[h]
 ·have e':(q.2.2==p.2.2)=false:=by simp[e]
  simp only[contains_app,e',Bool.or_false,Bool.not_false,Bool.true_and]
theorem lessE_no{es:List (AV×AV×Nat)}{clock:Nat}(ho:MpOk es clock){o:AV×AV×Nat→Bool}{ps:List (AV×AV×Nat)}{p:AV×AV×Nat}(hp:p∈es)(h:o p=false):lessE es o (ps++[p])=lessE es o ps:=by
 unfold lessE
 refine List.filter_congr fun q hq=>?_
 simp only[List.map_append,List.map_cons,List.map_nil]
 by_cases e:q.2.2=p.2.2
 ·have:=same_birth ho hp hq e
  subst this
  simp[h]
 ·have e':(q.2.2==p.2.2)=false:=by simp[e]
  simp only[contains_app,e',Bool.or_false]
theorem lessE_left{es:List (AV×AV×Nat)}{o:AV×AV×Nat→Bool}{ps:List (AV×AV×Nat)}:aMu (lessE es o ps) (ps.map (·.2.2))=aMu es (ps.map (·.2.2)):=by
 unfold aMu lessE
 rw[List.filter_filter]
 refine List.filter_congr fun q hq=>?_
 cases(ps.map (·.2.2)).contains q.2.2<;>simp
theorem lessE_end{es ps:List (AV×AV×Nat)}{o:AV×AV×Nat→Bool}(h:ps.Perm es):lessE es o ps=es.filter fun q=> !o q:=by
 unfold lessE
 refine List.filter_congr fun q hq=>?_
 have:(ps.map (·.2.2)).contains q.2.2=true:=by
  rw[List.contains_iff_mem]
  exact List.mem_map.2 ⟨q,h.mem_iff.2 hq,rfl⟩
 rw[this,Bool.true_and]
end Go.Aw
namespace Go.Gw
open Go Go.Aw Go.Proofs.YthhdnjiodklmmaaGreatDoor
def outQ(xs:List Int)(q:AV×AV×Nat):Bool:=match q.2.1 with
 |.agg (.int _ i::_)=>xs.contains i
 |_=>false
theorem nmE_strK{m:List (Txt×Nd)}(h:(m.map (·.1)).Nodup):StrK (mG 0 m)where
 ki:=aAR 0 m
 nd:=by
  rw[bDH]
  induction m with
  |nil=>exact List.nodup_nil
  |cons p m ih=>
   rw[List.map_cons,List.nodup_cons]at h
   rw[List.map_cons,List.map_cons,List.nodup_cons]
   refine⟨fun hx=>?_,ih h.2⟩
   obtain⟨s,hs,e⟩:=List.mem_map.1 hx
   cases e
   exact h.1 hs
theorem nmE_out(xs:List Int):∀(b:Nat) (m:List (Txt×Nd)),((mG b m).filter fun q=> !outQ xs q).map (·.1)=((m.filter fun p=> !xs.contains p.2.id).map (·.1)).map AV.str:=by
 intro b m
 induction m generalizing b with
 |nil=>rfl
 |cons p m ih=>
  have e:outQ xs (AV.str p.1,ndA p.2,b)=xs.contains p.2.id:=rfl
  rw[mG,List.filter_cons,List.filter_cons,e]
  split
  ·rw[List.map_cons,ih];rfl
  ·exact ih _
theorem nmE_mem{b:Nat}{m:List (Txt×Nd)}{q:AV×AV×Nat}(h:q∈mG b m):∃p∈m,q.1=.str p.1∧q.2.1=ndA p.2:=by
 induction m generalizing b with
 |nil=>cases h
 |cons p m ih=>
  rcases List.mem_cons.1 h with rfl|h
  ·exact⟨p,by simp,rfl,rfl⟩
  ·obtain⟨r,hr,e⟩:=ih h;exact⟨r,List.mem_cons_of_mem _ hr,e⟩
theorem mem_nmE{b:Nat}{m:List (Txt×Nd)}{p:Txt×Nd}(h:p∈m):∃k,(AV.str p.1,ndA p.2,k)∈mG b m:=by
 induction m generalizing b with
 |nil=>cases h
 |cons x m ih=>
  rcases List.mem_cons.1 h with rfl|h
  ·exact⟨b,by simp[mG]⟩
  ·obtain⟨k,hk⟩:=ih (b:=b+1) h;exact⟨k,List.mem_cons_of_mem _ hk⟩
end Go.Gw
/- view.Items: what is seen below a directory, by its own steps. No condition but how many and how long. -/
namespace Go.Gw
open Go Go.Aw Go.Proofs.YthhdnjiodklmmaaGreatDoor
def itC(its:List Itm):List AV:=(its.map itA).flatMap AV.cells
theorem itC_app(a:List Itm)(x:Itm):itC (a++[x])=itC a++[.str x.path,.int .i64 x.id,.str x.data]:=by
 simp[itC,itA,AV.cells]
theorem itC_len(a:List Itm):(itC a).length=a.length * 3:=by
 induction a with
 |nil=>rfl
 |cons x a ih=>
  have:itC (x::a)=[.str x.path,.int .i64 x.id,.str x.data]++itC a:=by simp[itC,itA,AV.cells]
  rw[this,List.length_append,ih,List.length_cons]
  simp only[List.length_cons,List.length_nil]
  omega
def itH(G:AHeap)(h:Nat)(its:List Itm):AHeap:=aD (aD G (h+5) (.cells (its.length+1) (itC its))) (h+3) (.cells 0 [.osl 3 (h+5) (its.length+1) 0 its.length its.length])
theorem itH_twice(G:AHeap)(h:Nat)(a b:List Itm):itH (itH G h a) h b=itH G h b:=by
 unfold itH
 rw[jN (aD G (h+5) _) _ _ (show h+3≠h+5 by omega),dR,dR]
theorem itH_app{G:AHeap}{h:Nat}(hh:h+5<G.length)(its:List Itm)(L:AHeap):itH (G++L) h its=itH G h its++L:=by
 unfold itH
 rw[cG hh,cG (by rw[aI];omega)]
theorem itH_len(G:AHeap)(h:Nat)(its:List Itm):(itH G h its).length=G.length:=by unfold itH;rw[aI,aI]
theorem itH_ne{G:AHeap}{h j:Nat}{B:ABlk}(its:List Itm)(hj:hget G j=B)(h1:j≠h+3)(h2:j≠h+5):hget (itH G h its) j=B:=by
 unfold itH
 exact bH (bH hj (by omega) _) (by omega) _
structure IB (F:FuncId) (b:Bool) (l:List Nd) (oes:List (AV×AV×Nat)) (ocl h:Nat) (its:List Itm) (G:AHeap):Prop where
 b0:hget G h=.cells 0 [.sl b (l.map ndA)]
 b1:hget G (h+1)=.map oes ocl
 b2:hget G (h+2)=.cells 0 [.map (h+1)]
 b3:hget G (h+3)=.cells 0 [.osl 3 (h+5) (its.length+1) 0 its.length its.length]
 b4:hget G (h+4)=.cells 0 [.func (.func F) [] [.ref h 0 0,.ref (h+2) 0 0,.ref (h+3) 0 0,.ref (h+4) 0 0]]
 b5:hget G (h+5)=.cells (its.length+1) (itC its)
theorem IB.lt{F:FuncId}{b:Bool}{l:List Nd}{oes:List (AV×AV×Nat)}{ocl h:Nat}{its:List Itm}{G:AHeap}(k:IB F b l oes ocl h its G):h+5<G.length:=bP k.b5 trivial
theorem IB.app{F:FuncId}{b:Bool}{l:List Nd}{oes:List (AV×AV×Nat)}{ocl h:Nat}{its:List Itm}{G:AHeap}(k:IB F b l oes ocl h its G)(L:AHeap):IB F b l oes ocl h its (G++L):=
 ⟨aK k.b0 trivial L,aK k.b1 trivial L,aK k.b2 trivial L,aK k.b3 trivial L,aK k.b4 trivial L,aK k.b5 trivial L⟩
theorem IB.set{F:FuncId}{b:Bool}{l:List Nd}{oes:List (AV×AV×Nat)}{ocl h:Nat}{its:List Itm}{G:AHeap}(k:IB F b l oes ocl h its G){i:Nat}(hi:h+5<i)(X:ABlk):IB F b l oes ocl h its (aD G i X):=
 ⟨bH k.b0 (by omega) X,bH k.b1 (by omega) X,bH k.b2 (by omega) X,bH k.b3 (by omega) X,bH k.b4 (by omega) X,bH k.b5 (by omega) X⟩
theorem IB.put{F:FuncId}{b:Bool}{l:List Nd}{oes:List (AV×AV×Nat)}{ocl h:Nat}{its:List Itm}{G:AHeap}(k:IB F b l oes ocl h its G)(js:List Itm):IB F b l oes ocl h js (itH G h js):=
 ⟨itH_ne js k.b0 (by omega) (by omega),itH_ne js k.b1 (by omega) (by omega),itH_ne js k.b2 (by omega) (by omega),dD (by rw[aI];exact bP k.b3 trivial) _,itH_ne js k.b4 (by omega) (by omega),
  bH (dD k.lt _) (by omega) _⟩
theorem IB.own{F:FuncId}{b:Bool}{l:List Nd}{oes:List (AV×AV×Nat)}{ocl h:Nat}{its:List Itm}{G:AHeap}(k:IB F b l oes ocl h its G):itH G h its=G:=by
 unfold itH
 rw[hP k.b5 trivial,hP k.b3 trivial]
theorem itm_cl(k n:Nat)(its:List Itm):ClB n (.cells k (itC its)):=fun x hx=>by
 unfold itC at hx
 rw[List.mem_flatMap]at hx
 obtain⟨y,hy,hx⟩:=hx
 obtain⟨t, -,rfl⟩:=List.mem_map.1 hy
 simp only[itA,AV.cells,List.mem_cons,List.not_mem_nil,or_false]at hx
 rcases hx with rfl|rfl|rfl
 ·exact .str _
 ·exact .int _ _
 ·exact .str _
theorem itH_keep{G:AHeap}{h n:Nat}(its:List Itm)(hn:h+5<n):∀(j:Nat) (b:ABlk),(itH G h its)[j]?=some b→G[j]?=some b∨ClB n b:=fun j b hj=>by
 rcases zS (n:=n) (b:=.cells 0 [.osl 3 (h+5) (its.length+1) 0 its.length its.length]) (fun x hx=>by rw[List.mem_singleton]at hx;subst hx;exact .osl _ _ _ _ _ _ (by omega)) j b hj with q|q
 ·exact zS (itm_cl _ _ its) j b q
 ·exact .inr q
end Go.Gw
namespace Go.Proofs.YthhdnjiodklmmaaGreatDoor
open Go Go.Aw Go.Gw
set_option linter.unusedSimpArgs false
set_option linter.unusedVariables false
set_option maxRecDepth 20000
set_option maxHeartbeats 4000000
theorem items1_c{b:Bool}{l:List Nd}(hc:chk l=true)(hw:Wfr l)(hl:l.length≤1073741824)(hn:SmN l){out:List Int}{oes:List (AV×AV×Nat)}(ho:OutOk out oes)(ocl u:Nat):
  ∀(k:Nat) (dir:Int) (path:Txt) (its:List Itm) (G:AHeap),dirI dir=true→l.length<k+dep l dir→path.length≤dep l dir * 1073741825→its.length+(blw l out dir path).length≤1073741824→
   IB 61 b l oes ocl u its G→
   ACalls Tryz.prog 61 [.int .i64 dir,.str path,.ref u 0 0,.ref (u+2) 0 0,.ref (u+3) 0 0,.ref (u+4) 0 0] G (fun v G'=>v=.tup []∧G'=itH G u (its++blw l out dir path)):=by
 intro k
 induction k with
 |zero=>intro dir path its G _ hk;have:=aCJ hw dir;omega
 |succ k ih=>
 intro dir path its G hd hk hp hq hb
 refine gR Tryz.func61 rfl (Nat.le_of_ble_eq_true rfl) ?_
 have hlt:=hb.lt
 have a0:=hb.b0
 repeat' first|(refine gS ?_;simp only[go_sem,a0])|refine gA ?_|(refine gD (fun h=>?_) (fun h=>?_)<;>try exact aB h)|fail
 refine bJ (aRd b l dir hl G) aD2 ?_
 rintro v H' ⟨rfl,rfl⟩
 simp only[go_sem]
 obtain⟨es,hes⟩:∃es,es=mG 0 (dS l dir):=⟨_,rfl⟩
 obtain⟨cl,hcl⟩:∃n,n=(dS l dir).length:=⟨_,rfl⟩
 have hok:MpOk es cl:=by rw[hes,hcl];exact bEB _
 have hsk:StrK es:=by rw[hes];exact nmE_strK (nP l dir).1
 rw[←hes,←hcl]
 repeat' first|(refine gS ?_;simp only[go_sem])|refine gA ?_|(refine gD (fun h=>?_) (fun h=>?_)<;>try exact aB h)|fail
 -- what is left out goes from the map
 refine hQ (ι:=AHeap) (fun _=>[(1,.str path),(2,.ref u 0 0),(3,.ref (u+2) 0 0),(4,.ref (u+3) 0 0),(5,.ref (u+4) 0 0),(8,.map G.length)]) (fun L=>G++.map (es.filter fun q=> !outQ out q) cl::L) (fun _=>True) ?_ fun L0 _=>?_
 ·refine aR (ι:=List (AV×AV×Nat)×AHeap) (fun s=>[(1,.str path),(2,.ref u 0 0),(3,.ref (u+2) 0 0),(4,.ref (u+3) 0 0),(5,.ref (u+4) 0 0),(8,.map G.length),(19,.iter (G.length+1))]) (fun s=>G++.map (lessE es (outQ out) s.1) cl::.miter G.length cl (s.1.map (·.2.2)) cl::s.2) (fun s=>Gone es s.1) (fun s=>es.length-s.1.length)
   ([],[]) ⟨fun p hp=>(by cases hp),(by simp)⟩ (by simp[go_sem]) (by rw[lessE_nil];rfl) ?_
  rintro⟨ps,L⟩ hG
  simp only at hG ⊢
  have hokl:MpOk (lessE es (outQ out) ps) cl:=hok.filter _
  have hskl:StrK (lessE es (outQ out) ps):=hsk.filter _
  repeat' first|(refine gS ?_;simp only[go_sem])|refine gA ?_|(refine gD (fun h=>?_) (fun h=>?_)<;>try exact aB h)|fail
  refine⟨G.length+1,G.length,cl,ps.map (·.2.2),cl,lessE es (outQ out) ps,cl,rfl,by simp only[go_sem],by simp only[go_sem],fun p hp=>⟨hokl.lt p hp,hokl.lt p hp⟩,fun he=>?_,fun p hp=>?_⟩
  ·simp only[go_sem]
   repeat' first|(refine gS ?_;simp only[go_sem])|refine gA ?_|(refine gD (fun h=>?_) (fun h=>?_)<;>try exact aB h)|fail
   rw[lessE_left]at he
   rw[lessE_end (hG.perm hok he)]
   exact⟨.miter G.length cl (ps.map (·.2.2)) cl::L,rfl⟩
  ·have hpl:p∈lessE es (outQ out) ps:=(List.mem_filter.1 hp).1
   have hp':=hp
   rw[lessE_left]at hp'
   obtain⟨hG2,hpe⟩:=hG.step hp'
   have g3:=hokl.ent hpl (ps.map (·.2.2))
   have hpm:=hpe
   rw[hes]at hpm
   obtain⟨⟨s,n⟩,hm,e1,e2⟩:=nmE_mem hpm
   simp only at e1 e2
   simp only[go_sem]
   obtain⟨G2,hG2e⟩:∃G2,G++.map (lessE es (outQ out) ps) cl::.miter G.length cl (ps.map (·.2.2)++[p.2.2]) cl::L=G2:=⟨_,rfl⟩
   have c0:hget G2 G.length=.map (lessE es (outQ out) ps) cl:=by rw[←hG2e];simp only[go_sem]
   have c1:hget G2 (G.length+1)=.miter G.length cl (ps.map (·.2.2)++[p.2.2]) cl:=by rw[←hG2e];simp only[go_sem]
   have c2:hget G2 (u+2)=.cells 0 [.map (u+1)]:=by rw[←hG2e];exact(hb.app _).b2
   have c3:hget G2 (u+1)=.map oes ocl:=by rw[←hG2e];exact(hb.app _).b1
   have d0:=eZ c0 trivial
   have d2:=aZ c2 trivial
   have d3:=aZ c3 trivial
   have d1:=aZ c0 trivial
   have k1:keysIn .string (lessE es (outQ out) ps)=True:=eq_true hskl.ki
   have k2:keysIn (.int .i64) oes=True:=eq_true ho.ki
   have hdel:=del_filter hskl hokl hpl e1
   rw[hG2e]
   rw[e1]at g3
   rw[e2]at g3
   rw[e1,e2]
   have hat:=ho.at_ n.id
   have hoq:outQ out p=out.contains n.id:=by unfold outQ;rw[e2];rfl
   have hms:es.length-(ps++[p]).length<es.length-ps.length:=by
    have:=hG2.len
    simp only[List.length_append,List.length_cons,List.length_nil]at this ⊢
    omega
   by_cases hmem:n.id∈out
   ·rw[if_pos hmem]at hat
    obtain⟨⟨j,w⟩,hj,hw2⟩:=Option.map_eq_some_iff.1 hat
    simp only at hw2
    subst hw2
    have hyes:outQ out p=true:=by rw[hoq];simpa using hmem
    have hle:=lessE_yes (ps:=ps) hok hpe hyes
    rw[←hdel]at hle
    repeat' first|(refine gS ?_;simp only[go_sem,g3,c0,c1,c2,c3,d0,d1,d2,d3,k1,k2,hj,ndA])|refine gA ?_|(refine gD (fun h=>?_) (fun h=>?_)<;>try exact aB h)|fail
    refine⟨(ps++[p],L++[.cells 0 (ndA n).cells]),hG2,hms,?_⟩
    rw[hle,←hG2e]
    simp[aD,ndA,AV.cells]
   ·rw[if_neg hmem]at hat
    have hj:=Option.map_eq_none_iff.1 hat
    have hnot:outQ out p=false:=by rw[hoq];simpa using hmem
    have hle:=lessE_no (ps:=ps) hok hpe hnot
    repeat' first|(refine gS ?_;simp only[go_sem,g3,c0,c1,c2,c3,d0,d1,d2,d3,k1,k2,hj,ndA])|refine gA ?_|(refine gD (fun h=>?_) (fun h=>?_)<;>try exact aB h)|fail
    refine⟨(ps++[p],L++[.cells 0 (ndA n).cells]),hG2,hms,?_⟩
    rw[hle,←hG2e]
    simp[aD,ndA,AV.cells]
 -- the names in order
 have hokf:MpOk (es.filter fun q=> !outQ out q) cl:=hok.filter _
 have hkeys:(es.filter fun q=> !outQ out q).map (·.1)=(((dS l dir).filter fun p=> !out.contains p.2.id).map (·.1)).map AV.str:=by rw[hes];exact nmE_out out 0 _
 have hsm:SmL (((dS l dir).filter fun p=> !out.contains p.2.id).map (·.1)):=fun s hs=>by
  obtain⟨p,hp,rfl⟩:=List.mem_map.1 hs
  exact smN_keys hn dir _ (List.mem_map.2 ⟨p,(List.mem_filter.1 hp).1,rfl⟩)
 have hfl:(es.filter fun q=> !outQ out q).length≤1073741824:=by
  have h1:=List.length_filter_le (fun q=> !outQ out q) es
  have h2:es.length=(dS l dir).length:=by rw[hes,bDq]
  have h3:=seenN_len l dir
  omega
 repeat' first|(refine gS ?_;simp only[go_sem])|refine gA ?_|(refine gD (fun h=>?_) (fun h=>?_)<;>try exact aB h)|fail
 refine aV (rising_c hokf G.length hkeys hsm hfl _ (by simp only[go_sem])) aXK ?_
 simp only[go_sem]
 show _
 obtain⟨ns,hns⟩:∃ns,ns=aAi l out dir:=⟨_,rfl⟩
 have hns':mY (((dS l dir).filter fun p=> !out.contains p.2.id).map (·.1))=ns:=by rw[hns];rfl
 rw[hns']
 repeat' first|(refine gS ?_;simp only[go_sem])|refine gA ?_|(refine gD (fun h=>?_) (fun h=>?_)<;>try exact aB h)|fail
 have hnl:ns.length≤1073741824:=by
  have h1:ns.length=(((dS l dir).filter fun p=> !out.contains p.2.id).map (·.1)).length:=by rw[hns];exact(kA _).length_eq
  have h2:=List.length_filter_le (fun p:Txt×Nd=> !out.contains p.2.id) (dS l dir)
  have h3:=seenN_len l dir
  rw[List.length_map]at h1
  omega
 obtain⟨es',hes'⟩:∃es',es'=es.filter fun q=> !outQ out q:=⟨_,rfl⟩
 have hsk':StrK es':=by rw[hes'];exact hsk.filter _
 have hstep:=aGW hc hw out hd path
 rw[←hns]at hstep
 rw[←hes']
 refine aR (ι:=Nat×AHeap) (fun s=>[(1,.str path),(2,.ref u 0 0),(3,.ref (u+2) 0 0),(4,.ref (u+3) 0 0),(5,.ref (u+4) 0 0),(8,.map G.length),(32,.sl false (ns.map AV.str)),(33,.int .i64 ns.length),(34,.int .i64 s.1)])
  (fun s=>itH G u (its++(ns.take s.1).flatMap (aGV l out dir path))++.map es' cl::s.2) (fun s=>s.1≤ns.length) (fun s=>ns.length-s.1) (0,L0) (Nat.zero_le _) ?_ ?_ ?_
 ·simp[go_sem]
 ·rw[List.take_zero,List.flatMap_nil,List.append_nil,hb.own]
 rintro⟨i,L⟩ hi
 simp only at hi ⊢
 obtain⟨its2,hits2⟩:∃x,x=its++(ns.take i).flatMap (aGV l out dir path):=⟨_,rfl⟩
 rw[←hits2]
 obtain⟨G2,hG2e⟩:∃G2,itH G u its2++.map es' cl::L=G2:=⟨_,rfl⟩
 have hB:IB 61 b l oes ocl u its2 G2:=by rw[←hG2e];exact(hb.put its2).app _
 have c0:hget G2 G.length=.map es' cl:=by rw[←hG2e];exact qP (itH_len G u its2)
 rw[hG2e]
 by_cases hin:i<ns.length
 ·have hmem:ns[i]∈aAi l out dir:=by rw[←hns];exact List.getElem_mem hin
  obtain⟨n,hlk,hsm2,hno⟩:=aRi hmem
  have hnil:ns[i].length≤1073741824:=smN_keys hn dir _ (List.mem_map.2 ⟨(ns[i],n),hsm2,rfl⟩)
  obtain⟨q,hq'⟩:=mem_nmE (b:=0) hsm2
  have hqe:(AV.str ns[i],ndA n,q)∈es':=by rw[hes',hes];exact List.mem_filter.2 ⟨hq',by unfold outQ;simpa[ndA]using hno⟩
  obtain⟨j,hj, -⟩:=hsk'.at_ hqe rfl
  simp only at hj
  have k1:keysIn .string es'=True:=eq_true hsk'.ki
  obtain⟨hpar,hnin, -⟩:=aBh hc hd hsm2
  have hdp:=uC hw hpar
  have hpl:(path.length+1)+ns[i].length≤dep l n.id * 1073741825:=by omega
  have htk:(ns.take (i+1)).flatMap (aGV l out dir path)=(ns.take i).flatMap (aGV l out dir path)++aGV l out dir path ns[i]:=by
   rw[List.take_succ_eq_append_getElem hin,List.flatMap_append,List.flatMap_singleton]
  have hpc:aGV l out dir path ns[i]=⟨path++(47::ns[i]),n.id,n.data⟩::(if dirI n.id=true then blw l out n.id (path++(47::ns[i]))else[]):=by unfold aGV;rw[hlk]
  have hsz:its2.length+(aGV l out dir path ns[i]).length≤1073741824:=by
   have h1:((ns.take (i+1)).flatMap (aGV l out dir path)).length≤(blw l out dir path).length:=by
    rw[hstep]
    conv=>rhs;rw[←List.take_append_drop (i+1) ns,List.flatMap_append,List.length_append]
    omega
   rw[htk,List.length_append]at h1
   rw[hits2,List.length_append]
   omega
  have hdl:=aCJ hw n.id
  have r3:=aZ hB.b3 trivial
  have r4:=aZ hB.b4 trivial
  have r5:=aZ hB.b5 trivial
  have w5:=eZ hB.b5 trivial
  have l5:=hB.lt
  have r3':∀c L,hget (aD G2 (u+5) c++L) (u+3)=_:=fun c L=>aK (bH hB.b3 (by omega) c) trivial L
  have w3':∀c c' L,aD (aD G2 (u+5) c++L) (u+3) c'=aD (aD G2 (u+5) c) (u+3) c'++L:=fun c c' L=>cG (by rw[aI];omega) L c'
  have r4':∀c c' L,hget (aD (aD G2 (u+5) c) (u+3) c'++L) (u+4)=_:=fun c c' L=>aK (bH (bH hB.b4 (by omega) c) (by omega) c') trivial L
  have rn':∀c c' L,hget (aD (aD G2 (u+5) c) (u+3) c'++L) G2.length=L.getD 0 .gone:=fun c c' L=>qP (by rw[aI,aI])
  have hcs:(itC its2).length=its2.length * 3:=itC_len _
  have hq2:((its2.length+1) * 40≤140737488355328)=True:=eq_true (by rw[hpc]at hsz;simp only[List.length_cons]at hsz;omega)
  have hsp:cT [AV.osl 3 (u+5) (its2.length+1) 0 its2.length its2.length] 0 [.osl 3 (u+5) (its2.length+2) 0 (its2.length+1) (its2.length+1)]=[.osl 3 (u+5) (its2.length+2) 0 (its2.length+1) (its2.length+1)]:=rfl
  have hgd:(ns.map AV.str).getD i .top=.str ns[i]:=by simp[hin]
  have hq1:(∀e,e=AV.agg [.str (path++47::ns[i]),.int .i64 n.id,.str n.data]→e.cells.length=3)=True:=eq_true (fun e he=>by rw[he];rfl)
  obtain⟨x,hx⟩:∃x:Itm,x=⟨path++(47::ns[i]),n.id,n.data⟩:=⟨_,rfl⟩
  have hput:∀Y,aD (aD G2 (u+5) (.cells (its2.length+2) (itC its2++[.str (path++47::ns[i]),.int .i64 n.id,.str n.data]))) (u+3) (.cells 0 [.osl 3 (u+5) (its2.length+2) 0 (its2.length+1) (its2.length+1)])++Y=itH (G2++Y) u (its2++[x]):=fun Y=>by
   rw[itH_app hB.lt,hx]
   unfold itH
   rw[itC_app,List.length_append]
   rfl
  have hend:∀js Y,itH (G2++Y) u js=itH G u js++.map es' cl::(L++Y):=fun js Y=>by
   rw[itH_app hB.lt,←hG2e,itH_app (by rw[itH_len];exact hlt),itH_twice]
   simp
  rw[←hx]at hpc
  have hms:ns.length-(i+1)<ns.length-i:=by omega
  cases hdn:dirI n.id with
  |false=>
   repeat' first|((first|refine cK (ct (yC _) eG) ?_|refine cP (ct (yC _) eG) ?_|refine cM (ct (yC _) eG) ?_|refine gS ?_);simp only[go_sem,c0,hgd,hj,k1,ndA,hin,hcs,hq1,hq2,hsp,r3,r4,r5,w5,r3',w3',r4',rn',hdn])|refine gA ?_|(refine gD (fun h=>?_) (fun h=>?_)<;>try exact aB h)|fail
   refine⟨(i+1,L++[.cells 0 (ndA n).cells]),hin,hms,congrArg _ (bI hin (by omega)),?_⟩
   rw[hput,hend,htk,hpc,hdn,if_neg (by simp),hits2,List.append_assoc]
   rfl
  |true=>
   repeat' first|((first|refine cK (ct (yC _) eG) ?_|refine cP (ct (yC _) eG) ?_|refine cM (ct (yC _) eG) ?_|refine gS ?_);simp only[go_sem,c0,hgd,hj,k1,ndA,hin,hcs,hq1,hq2,hsp,r3,r4,r5,w5,r3',w3',r4',rn',hdn])|refine gA ?_|(refine gD (fun h=>?_) (fun h=>?_)<;>try exact aB h)|fail
   rw[hput]
   have hB3:=(hB.app [.cells 0 [.int .i64 n.id,.int .i64 n.parent,.str n.name,.int .i64 n.moved.c,.int .i64 n.moved.r,.str n.data,.int .i64 n.wrote.c,.int .i64 n.wrote.r]]).put (its2++[x])
   rw[hpc,hdn,if_pos rfl,List.length_cons]at hsz
   refine kH (ih n.id (path++47::ns[i]) (its2++[x]) _ hdn (by omega) (by rw[List.length_append,List.length_cons];omega) (by rw[List.length_append,List.length_singleton];omega) hB3) aXJ ?_
   rintro v H' ⟨rfl,rfl⟩
   rw[itH_twice]
   simp only[go_sem]
   repeat' first|(refine gS ?_;simp only[go_sem])|refine gA ?_|(refine gD (fun h=>?_) (fun h=>?_)<;>try exact aB h)|fail
   refine⟨(i+1,L++[.cells 0 (ndA n).cells]),hin,hms,congrArg _ (bI hin (by omega)),?_⟩
   rw[hend,htk,hpc,hdn,if_pos rfl,hits2,List.append_assoc]
   rfl
 ·have hie:i=ns.length:=by omega
  repeat' first|(refine gS ?_;simp only[go_sem,hin])|refine gA ?_|(refine gD (fun h=>?_) (fun h=>?_)<;>try exact aB h)|fail
  refine⟨itH G u its2,.map es' cl::L,.tup [],hG2e.symm,by rw[itH_len];exact Nat.le_refl _,by rw[itH_len];exact itH_keep its2 hlt,.cl _ (.tup _ fun _ _ hx=>by simp at hx),rfl,?_⟩
  rw[hits2,hie,List.take_length,hstep]
theorem aDy(b:Bool)(l:List Nd)(dir:Int)(hw:Wfr l)(hd:dirI dir=true)(hl:l.length≤1073741824)(hn:SmN l)(H:AHeap):cN Tryz.prog 30 [.sl b (l.map ndA),.int .i64 dir] H (.sl false ((dJ l dir).map itA)):=by
 refine aQ Tryz.func30 rfl (Nat.le_of_ble_eq_true rfl) ?_
 unfold dJ
 cases hs:chk l with
 |false=>
  rw[if_neg (by simp),List.map_nil]
  repeat' first|((first|refine cK (ct (bM _ _) aN) ?_|refine cP (ct (bM _ _) aN) ?_|refine cM (ct (bM _ _) aN) ?_|refine gS ?_);simp only[go_sem,hs])|refine gA ?_|(refine gD (fun h=>?_) (fun h=>?_)<;>try exact aB h)|fail
  exact done (by simp only[go_sem]) (.sl _ _)
 |true=>
  rw[if_pos rfl]
  have hab:=bBZ b l dir hl
  obtain⟨up,hup⟩:∃up,up=zL l dir:=⟨_,rfl⟩
  rw[←hup]at hab
  have k0:keysIn (.int .i64) []=True:=eq_true (fun p hp=>by cases hp)
  have hul:up.length≤1073741824:=by
   rw[hup,zL,if_pos hs]
   exact Nat.le_trans (yQ hw _ _) hl
  have ct0:=ct hab aXI;repeat' first|((first|refine gK ?_|refine cK (ct (bM _ _) aN) ?_|refine cP (ct (bM _ _) aN) ?_|refine cM (ct (bM _ _) aN) ?_|refine gS ?_);simp only[go_sem,hs,k0])|refine gA ?_|(refine gD (fun h=>?_) (fun h=>?_)<;>try exact aB h)|fail
  have e0:hget (H++[.cells 0 [.sl b (l.map ndA)]]) H.length=.cells 0 [.sl b (l.map ndA)]:=by simp only[go_sem]
  refine hQ (ι:=List (AV×AV×Nat)×Nat) (fun _=>[(1,.int .i64 dir),(2,.ref H.length 0 0),(5,.ref (H.length+2) 0 0)]) (fun s=>H++[.cells 0 [.sl b (l.map ndA)],.map s.1 s.2,.cells 0 [.map (H.length+1)]]) (fun s=>OutOk (dir::up) s.1) ?_ fun⟨oes,ocl⟩ ho=>?_
  ·refine aR (ι:=Nat×List (AV×AV×Nat)×Nat) (fun s=>[(1,.int .i64 dir),(2,.ref H.length 0 0),(5,.ref (H.length+2) 0 0),(18,.sl false (up.map xA)),(19,.int .i64 up.length),(20,.int .i64 s.1)]) (fun s=>H++[.cells 0 [.sl b (l.map ndA)],.map s.2.1 s.2.2,.cells 0 [.map (H.length+1)]])
    (fun s=>s.1≤up.length∧OutOk (dir::up.take s.1) s.2.1) (fun s=>up.length-s.1) (0,rC (.int .i64 dir) (.bool true) [] 0,_) ⟨Nat.zero_le _,out_put out_nil dir 0⟩ ?_ rfl ?_
   ·simp[go_sem]
   rintro⟨i,oes,ocl⟩ ⟨hi,ho⟩
   simp only at hi ho ⊢
   by_cases hin:i<up.length
   ·have hgd:(up.map xA).getD i .top=xA up[i]:=by simp[hin]
    have k1:keysIn (.int .i64) oes=True:=eq_true ho.ki
    have ho2:=out_put ho up[i] ocl
    have htk:dir::up.take i++[up[i]]=dir::up.take (i+1):=by rw[List.take_succ_eq_append_getElem hin];rfl
    rw[htk]at ho2
    repeat' first|(refine gS ?_;simp only[go_sem,hin,hgd,xA,k1])|refine gA ?_|(refine gD (fun h=>?_) (fun h=>?_)<;>try exact aB h)|fail
    refine⟨(i+1,_,_),⟨hin,ho2⟩,by simp only;omega,congrArg _ (bI hin (by omega)),rfl⟩
   ·have hie:i=up.length:=by omega
    rw[hie,List.take_length]at ho
    repeat' first|(refine gS ?_;simp only[go_sem,hin])|refine gA ?_|(refine gD (fun h=>?_) (fun h=>?_)<;>try exact aB h)|fail
    exact⟨(oes,ocl),ho,rfl⟩
  simp only
  have hout:dir::up=bB4 l dir:=by rw[hup];rfl
  rw[hout]at ho
  refine zR (ι:=Unit) (fun _=>[(1,.int .i64 dir),(2,.ref H.length 0 0),(5,.ref (H.length+2) 0 0),(8,.ref (H.length+3) 0 0)]) (fun _=>H++[.cells 0 [.sl b (l.map ndA)],.map oes ocl,.cells 0 [.map (H.length+1)],.cells 0 [.sl true []]]) (fun _=>True) ?_ fun _ _=>?_
  ·repeat' first|(refine gS ?_;simp only[go_sem])|refine gA ?_|(refine gD (fun h=>?_) (fun h=>?_)<;>try exact aB h)|fail
   exact⟨(),trivial⟩
  refine zR (ι:=Unit) (fun _=>[(1,.int .i64 dir),(2,.ref H.length 0 0),(5,.ref (H.length+2) 0 0),(8,.ref (H.length+3) 0 0),(9,.ref (H.length+4) 0 0)]) (fun _=>H++[.cells 0 [.sl b (l.map ndA)],.map oes ocl,.cells 0 [.map (H.length+1)],.cells 0 [.sl true []],.cells 0 [.nilfunc]]) (fun _=>True) ?_ fun _ _=>?_
  ·repeat' first|(refine gS ?_;simp only[go_sem])|refine gA ?_|(refine gD (fun h=>?_) (fun h=>?_)<;>try exact aB h)|fail
   exact⟨(),trivial⟩
  refine zR (ι:=Unit) (fun _=>[(1,.int .i64 dir),(2,.ref H.length 0 0),(5,.ref (H.length+2) 0 0),(8,.ref (H.length+3) 0 0),(9,.ref (H.length+4) 0 0)]) (fun _=>H++[.cells 0 [.sl b (l.map ndA)],.map oes ocl,.cells 0 [.map (H.length+1)],.cells 0 [.sl true []],.cells 0 [.func (.func 61) [] [.ref H.length 0 0,.ref (H.length+2) 0 0,.ref (H.length+3) 0 0,.ref (H.length+4) 0 0]]]) (fun _=>True) ?_ fun _ _=>?_
  ·repeat' first|(refine gS ?_;simp only[go_sem])|refine gA ?_|(refine gD (fun h=>?_) (fun h=>?_)<;>try exact aB h)|fail
   exact⟨(),trivial⟩
  refine aA5 (H.length+3) 0 3 (by simp only[go_sem];rfl) rfl ?_
  simp only[go_sem]
  have hB:IB 61 b l oes ocl H.length [] (H++[.cells 0 [.sl b (l.map ndA)],.map oes ocl,.cells 0 [.map (H.length+1)],.cells 0 [.osl 3 (H.length+5) 1 0 0 0],.cells 0 [.func (.func 61) [] [.ref H.length 0 0,.ref (H.length+2) 0 0,.ref (H.length+3) 0 0,.ref (H.length+4) 0 0]],.cells 1 []]):=
   ⟨by simp only[go_sem],by simp only[go_sem],by simp only[go_sem],by first|(simp only[go_sem];done)|(simp only[go_sem];rfl),by simp only[go_sem],by first|(simp only[go_sem];done)|(simp only[go_sem];rfl)⟩
  have hbl:=bDB hs hw (bB4 l dir) dir [] hd
  have hdl:=aCJ hw dir
  repeat' first|(refine gS ?_;simp only[go_sem])|refine gA ?_|(refine gD (fun h=>?_) (fun h=>?_)<;>try exact aB h)|fail
  refine kH (items1_c hs hw hl hn ho ocl H.length (l.length+1) dir [] [] _ hd (by omega) (Nat.zero_le _) (by rw[List.length_nil];omega) hB) aXJ ?_
  rintro v H' ⟨rfl,rfl⟩
  rw[List.nil_append]
  have hB2:=hB.put (blw l (bB4 l dir) dir [])
  have c3:=hB2.b3
  have c5:=hB2.b5
  simp only[go_sem]
  repeat' first|(refine gS ?_;simp only[go_sem,c3])|refine gA ?_|(refine gD (fun h=>?_) (fun h=>?_)<;>try exact aB h)|fail
  obtain⟨L,hL⟩:=(show ∃L,itH (H++_) H.length (blw l (bB4 l dir) dir [])=H++L from eE (eE ⟨_,rfl⟩ (by omega) _) (by omega) _)
  rw[hL]at c5 ⊢
  exact iU (cs:=itC (blw l (bB4 l dir) dir [])) (es:=(blw l (bB4 l dir) dir []).map itA) (rest:=[]) (by omega) c5 (by rw[List.append_nil];rfl) (by simp) (fun e he=>by obtain⟨x,_,rfl⟩:=List.mem_map.1 he;rfl) (fun e he=>by obtain⟨x,_,rfl⟩:=List.mem_map.1 he;exact(by simp only[go_sem])) rfl
end Go.Proofs.YthhdnjiodklmmaaGreatDoor
/- diff.Of: maps from paths to items, ars blocks; the list of events. In plain Lean. No condition. -/
namespace Go.Aw
open Go
theorem putS_at(y:List UInt8)(w:AV)(clock:Nat):∀(es:List (AV×AV×Nat)),keysIn .string es→keysIn .string (rC (.str y) w es clock)∧
  (∀x,(keyAt (.str x) (rC (.str y) w es clock)).map (·.2)=if x=y then some w else(keyAt (.str x) es).map (·.2)):=by
 intro es
 induction es with
 |nil=>
  intro _
  refine⟨fun p hp=>?_,fun x=>?_⟩
  ·simp only[rC,keyAt,List.nil_append,List.mem_singleton]at hp
   subst hp;rfl
  ·simp only[rC,keyAt,List.nil_append,sU]
   by_cases h:x=y<;>simp[h]
 |cons q es ih=>
  obtain⟨k,v,b⟩:=q
  intro hk
  have hk0:aYy .string k=true:=hk (k,v,b) (by simp)
  have hk1:keysIn .string es:=fun p hp=>hk p (List.mem_cons_of_mem _ hp)
  cases k<;>simp only[aYy,Bool.false_eq_true]at hk0
  rename_i z
  by_cases hyz:y=z
  ·subst hyz
   have e:rC (.str y) w ((AV.str y,v,b)::es) clock=(.str y,w,b)::es:=by simp[rC,keyAt,sU]
   rw[e]
   refine⟨fun p hp=>?_,fun x=>?_⟩
   ·rcases List.mem_cons.1 hp with rfl|hp
    ·rfl
    ·exact hk1 p hp
   ·simp only[keyAt,sU]
    by_cases h:x=y<;>simp[h]
  ·have hne:sU (.str y) (.str z)=false:=by simp[sU,hyz]
   rw[Go.Gw.aAS hne]
   obtain⟨i1,i2⟩:=ih hk1
   refine⟨fun p hp=>?_,fun x=>?_⟩
   ·rcases List.mem_cons.1 hp with rfl|hp
    ·rfl
    ·exact i1 p hp
   ·have:=i2 x
    simp only[keyAt,sU]
    by_cases h:x=z
    ·subst h
     have hxy:¬x=y:=fun e=>hyz e.symm
     simp[hxy]
    ·simp only[decide_eq_false h,cond_false,Option.map_map]
     by_cases hxy:x=y
     ·rw[if_pos hxy]at this ⊢
      cases hkk:keyAt (.str x) (rC (.str y) w es clock)with
      |none=>rw[hkk]at this;cases this
      |some v=>rw[hkk]at this;simpa using this
     ·rw[if_neg hxy]at this ⊢
      cases hkk:keyAt (.str x) (rC (.str y) w es clock)with
      |none=>rw[hkk]at this;cases hk2:keyAt (.str x) es with
       |none=>rfl
       |some v=>rw[hk2]at this;cases this
      |some v=>rw[hkk]at this;cases hk2:keyAt (.str x) es with
       |none=>rw[hk2]at this;cases this
       |some u=>rw[hk2]at this;simpa using this
end Go.Aw
namespace Go.Gw
open Go Go.Aw Go.Proofs.YthhdnjiodklmmaaGreatDoor
structure ItM (l:List Itm) (es:List (AV×AV×Nat)):Prop where
 ki:keysIn .string es
 at_:∀p:Txt,(keyAt (.str p) es).map (·.2)=(lookI p l).map itA
 cl:∀n,∀p∈es,Cl n p.1∧Cl n p.2.1
theorem itm_nil:ItM [] []:=⟨fun p hp=>(by cases hp),fun x=>rfl,fun n p hp=>(by cases hp)⟩
theorem cl_itA(n:Nat)(x:Itm):Cl n (itA x):=.agg _ fun i y hy=>by
 have:=List.mem_of_getElem? hy
 simp only[List.mem_cons,List.not_mem_nil,or_false]at this
 rcases this with rfl|rfl|rfl
 ·exact .str _
 ·exact .int _ _
 ·exact .str _
theorem itm_put{l:List Itm}{es:List (AV×AV×Nat)}(h:ItM l es)(x:Itm)(clock:Nat):ItM (l++[x]) (rC (.str x.path) (itA x) es clock):=by
 obtain⟨i1,i2⟩:=putS_at x.path (itA x) clock es h.ki
 refine⟨i1,fun p=>?_,fun n=>putKey_cl (.str _) (cl_itA n x) (h.cl n) clock⟩
 rw[i2,h.at_]
 unfold lookI
 rw[List.reverse_append,List.reverse_cons,List.reverse_nil,List.nil_append,List.singleton_append,List.find?_cons]
 by_cases e:p=x.path
 ·subst e;simp
 ·have e':¬x.path=p:=fun q=>e q.symm
  simp[e,e']
theorem ItM.yes{l:List Itm}{es:List (AV×AV×Nat)}(h:ItM l es){p:Txt}{x:Itm}(hx:lookI p l=some x):∃j,keyAt (.str p) es=some (j,itA x):=by
 have:=h.at_ p
 rw[hx]at this
 obtain⟨⟨j,w⟩,e1,e2⟩:=Option.map_eq_some_iff.1 this
 exact⟨j,by rw[e1];simp only at e2;rw[e2]⟩
theorem ItM.no{l:List Itm}{es:List (AV×AV×Nat)}(h:ItM l es){p:Txt}(hx:lookI p l=none):keyAt (.str p) es=none:=by
 have:=h.at_ p
 rw[hx]at this
 exact Option.map_eq_none_iff.1 this
def evC(evs:List Evt):List AV:=(evs.map kE).flatMap AV.cells
theorem bDK(a:List Evt)(x:Evt):evC (a++[x])=evC a++[.int .i64 x.kind,.str x.path]:=by
 simp[evC,kE,AV.cells]
theorem aDz(a:List Evt):(evC a).length=a.length * 2:=by
 induction a with
 |nil=>rfl
 |cons x a ih=>
  have:evC (x::a)=[.int .i64 x.kind,.str x.path]++evC a:=by simp[evC,kE,AV.cells]
  rw[this,List.length_append,ih,List.length_cons]
  simp only[List.length_cons,List.length_nil]
  omega
def evH(G:AHeap)(h:Nat)(evs:List Evt):AHeap:=aD (aD G (h+1) (.cells (evs.length+1) (evC evs))) h (.cells 0 [.osl 2 (h+1) (evs.length+1) 0 evs.length evs.length])
theorem evH_app{G:AHeap}{h:Nat}(hh:h+1<G.length)(evs:List Evt)(L:AHeap):evH (G++L) h evs=evH G h evs++L:=by
 unfold evH
 rw[cG hh,cG (by rw[aI];omega)]
theorem aKv(G:AHeap)(h:Nat)(evs:List Evt):(evH G h evs).length=G.length:=by unfold evH;rw[aI,aI]
theorem aG5{G:AHeap}{h j:Nat}{B:ABlk}(evs:List Evt)(hj:hget G j=B)(h1:j≠h)(h2:j≠h+1):hget (evH G h evs) j=B:=by
 unfold evH
 exact bH (bH hj (by omega) _) (by omega) _
structure EB (h:Nat) (evs:List Evt) (G:AHeap):Prop where
 b0:hget G h=.cells 0 [.osl 2 (h+1) (evs.length+1) 0 evs.length evs.length]
 b1:hget G (h+1)=.cells (evs.length+1) (evC evs)
theorem EB.lt{h:Nat}{evs:List Evt}{G:AHeap}(k:EB h evs G):h+1<G.length:=bP k.b1 trivial
theorem EB.app{h:Nat}{evs:List Evt}{G:AHeap}(k:EB h evs G)(L:AHeap):EB h evs (G++L):=⟨aK k.b0 trivial L,aK k.b1 trivial L⟩
theorem EB.set{h:Nat}{evs:List Evt}{G:AHeap}(k:EB h evs G){i:Nat}(hi:h+1<i)(X:ABlk):EB h evs (aD G i X):=⟨bH k.b0 (by omega) X,bH k.b1 (by omega) X⟩
theorem EB.put{h:Nat}{G:AHeap}(hl:h+1<G.length)(es:List Evt):EB h es (evH G h es):=
 ⟨dD (by rw[aI];omega) _,bH (dD hl _) (by omega) _⟩
theorem evs_clB(k n:Nat)(evs:List Evt):ClB n (.cells k (evC evs)):=fun x hx=>by
 unfold evC at hx
 rw[List.mem_flatMap]at hx
 obtain⟨y,hy,hx⟩:=hx
 obtain⟨t, -,rfl⟩:=List.mem_map.1 hy
 simp only[kE,AV.cells,List.mem_cons,List.not_mem_nil,or_false]at hx
 rcases hx with rfl|rfl
 ·exact .int _ _
 ·exact .str _
theorem bCo{G:AHeap}{h n:Nat}(evs:List Evt)(hn:h+1<n):∀(j:Nat) (b:ABlk),(evH G h evs)[j]?=some b→G[j]?=some b∨ClB n b:=fun j b hj=>by
 rcases zS (n:=n) (b:=.cells 0 [.osl 2 (h+1) (evs.length+1) 0 evs.length evs.length]) (fun x hx=>by rw[List.mem_singleton]at hx;subst hx;exact .osl _ _ _ _ _ _ (by omega)) j b hj with q|q
 ·exact zS (evs_clB _ _ evs) j b q
 ·exact .inr q
end Go.Gw

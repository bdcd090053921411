/- The texts 15 of 53 beneath the rows of this seat (joined by program): the abstract machine, and what the functions answer. No condition. -/
import Derived.Test.YtolbeecicikoaaaGreatDoorWorkAE
import Derived.Test.YtolbeecicikoaaaGreatDoorWorkAN
set_option linter.unusedSimpArgs false
set_option linter.unusedVariables false
set_option linter.unusedSectionVars false
set_option maxRecDepth 100000
set_option maxHeartbeats 16000000
namespace Go.Proofs.YtolbeecicikoaaaGreatDoor
theorem aWe(a b:Int)(d:Bool)(H:AHeap):bD Tryz.prog 93 [.agg [.int .i64 a,.int .i64 b],.bool d] H (.int .i64 (idI a b d)):=by
 refine fO Tryz.func93 ?_
 have hc:=pS a b
 unfold idI
 cases hk:zM a b with
 |false=>
  rw[hk]at hc
  repeat' first|(refine gS ?_;simp only[go_sem])|refine gA ?_|(refine gD (fun h=>?_) (fun h=>?_)<;>try exact aA h)|fail
  exact dY (.refl _)
 |true=>
  rw[hk]at hc
  have h:=oU.1 hk
  have w1:IntKind.i64.wrap (128 * a)=128 * a:=wI
  have w2:IntKind.i64.wrap (2 * b)=2 * b:=wI
  have w3:IntKind.i64.wrap (128 * a+2 * b)=128 * a+2 * b:=wI
  have w4:IntKind.i64.wrap (128 * a+2 * b+1)=128 * a+2 * b+1:=wI
  cases d with
  |true=>
   repeat' first|(refine gS ?_;simp only[go_sem,w1,w2,w3,w4])|refine gA ?_|(refine gD (fun h=>?_) (fun h=>?_)<;>try exact aA h)|fail
   exact dY (.refl _)
  |false=>
   repeat' first|(refine gS ?_;simp only[go_sem,w1,w2,w3,w4])|refine gA ?_|(refine gD (fun h=>?_) (fun h=>?_)<;>try exact aA h)|fail
   exact dY (.of (by simp))
def aKk(a b:Int):AV:=if kX a b=true then .tup [.agg [.int .i64 (a+1),.int .i64 b],.int .i64 0]else .tup [.agg [.int .i64 0,.int .i64 0],.int .i64 20]
theorem aRc(a b:Int)(H:AHeap):bD Tryz.prog 150 [.int .i64 a,.int .i64 b] H (aKk a b):=by
 refine fO Tryz.func150 ?_
 unfold aKk
 by_cases h1:a<0
 ·have hn:kX a b=false:=by rw[←zBr,nK];omega
  have d1:decide (a<0)=true:=zAd h1
  rw[hn]
  repeat' first|(refine gS ?_;simp only[go_sem,d1])|refine gA ?_|(refine gD (fun h=>?_) (fun h=>?_)<;>try exact aA h)|fail
  exact dY (.refl _)
 have d1:decide (a<0)=false:=eT h1
 by_cases h2:1048576≤a
 ·have hn:kX a b=false:=by rw[←zBr,nK];omega
  have d2:decide (1048576≤a)=true:=zAd h2
  rw[hn]
  repeat' first|(refine gS ?_;simp only[go_sem,d1,d2])|refine gA ?_|(refine gD (fun h=>?_) (fun h=>?_)<;>try exact aA h)|fail
  exact dY (.refl _)
 have d2:decide (1048576≤a)=false:=eT h2
 have hw:IntKind.i64.wrap (a+1)=a+1:=wI
 have hc:=pS (a+1) b
 cases hk:zM (a+1) b with
 |false=>
  have hn:kX a b=false:=by rw[←zBr,nK];rw[←zBr,oU]at hk;omega
  rw[hk]at hc
  rw[hn]
  repeat' first|(refine gS ?_;simp only[go_sem,d1,d2,hw])|refine gA ?_|(refine gD (fun h=>?_) (fun h=>?_)<;>try exact aA h)|fail
  exact dY (.refl _)
 |true=>
  have hn:kX a b=true:=by rw[nK];rw[oU]at hk;omega
  rw[hk]at hc
  rw[hn]
  repeat' first|(refine gS ?_;simp only[go_sem,d1,d2,hw])|refine gA ?_|(refine gD (fun h=>?_) (fun h=>?_)<;>try exact aA h)|fail
  exact dY (.refl _)
theorem aGv(n:Int)(s:Stm)(f:Bool)(H:AHeap):bD Tryz.prog 37 [.int .i64 n,.sl f [.agg [.int .i64 s.c,.int .i64 s.r]]] H (.int .i64 (bY n s)):=by
 refine fO Tryz.func37 ?_
 obtain⟨a,b⟩:=s
 have hw:IntKind.i64.wrap (0+1)=1:=rfl
 repeat' first|(refine gS ?_;simp only[go_sem])|refine gA ?_|(refine gD (fun h=>?_) (fun h=>?_)<;>try exact aA h)|fail
 refine mS 2 ?_
 unfold mE
 repeat' first|(refine gS ?_;simp only[go_sem])|refine gA ?_|(refine gD (fun h=>?_) (fun h=>?_)<;>try exact aA h)|fail
 have hc:=pS a b
 cases hk:zM a b with
 |false=>
  rw[hk]at hc
  repeat' first|(refine gS ?_;simp only[go_sem,hw])|refine gA ?_|(refine gD (fun h=>?_) (fun h=>?_)<;>try exact aA h)|fail
  exact dY (.of (by unfold bY;rw[hk];rfl))
 |true=>
  rw[hk]at hc
  repeat' first|(refine gS ?_;simp only[go_sem,hw])|refine gA ?_|(refine gD (fun h=>?_) (fun h=>?_)<;>try exact aA h)|fail
  exact dY (.of (by unfold bY;rw[hk];rfl))
end Go.Proofs.YtolbeecicikoaaaGreatDoor
namespace Go.Proofs.YtolbeecicikoaaaGreatDoor
def rS(k:Int):Option Int:=if k=1∨k=2∨k=6∨k=10 then some 1 else if k=3 then some 5 else if k=4∨k=7 then some 9 else if k=5 then some 3 else if k=9∨k=11 then some 8 else if k=13 then some 4 else if k=8∨k=12 then some 0 else none
def dW(s:Txt):Bool:=(bV s).isSome
def fH(p part:Int)(r e:Bool):Bool:=if nX .and .i64 p part=0 then e else r
def chkC(c:Cal):Bool:=match rS c.kind with
 |none=>false
 |some p=>fH p 1 (dW c.path) (decide (c.path=[]))&&(fH p 2 (dW c.to) (decide (c.to=[]))&&(fH p 4 (decide ((c.data.length:Int)≤if c.kind=13 then 4000 else 64)) (decide (c.data=[]))&&fH p 8 (decide (0≤c.n)) (decide (c.n=0))))
theorem aCM(k:Int):k=1∨k=2∨k=6∨k=10∨k=3∨k=4∨k=7∨k=5∨k=9∨k=11∨k=13∨k=8∨k=12∨
  ((k=1)=False∧(k=2)=False∧(k=6)=False∧(k=10)=False∧(k=3)=False∧(k=4)=False∧(k=7)=False∧(k=5)=False∧(k=9)=False∧(k=11)=False∧(k=13)=False∧(k=8)=False∧(k=12)=False):=by
 simp only[eq_iff_iff,iff_false];omega
theorem aRd(k:Int)(H:AHeap):bD Tryz.prog 43 [.int .i64 k] H (.tup [.int .i64 ((rS k).getD 0),.bool (rS k).isSome]):=by
 refine fO Tryz.func43 ?_
 rcases aCM k with rfl|rfl|rfl|rfl|rfl|rfl|rfl|rfl|rfl|rfl|rfl|rfl|rfl|⟨h1,h2,h3,h4,h5,h6,h7,h8,h9,h10,h11,h12,h13⟩
 iterate 13 focus ((repeat' first|(refine gS ?_;simp only[go_sem,Int.reduceEq])|refine gA ?_|(refine gD (fun h=>?_) (fun h=>?_)<;>try exact aA h)|fail);exact bL (.refl _))
 have z:∀m:Int,(k=m)=False→decide (k=m)=false:=fun m h=>by simp[h]
 have z1:=z 1 h1
 have z2:=z 2 h2
 have z3:=z 6 h3
 have z4:=z 10 h4
 have z5:=z 3 h5
 have z6:=z 4 h6
 have z7:=z 7 h7
 have z8:=z 5 h8
 have z9:=z 9 h9
 have z10:=z 11 h10
 have z11:=z 13 h11
 have z12:=z 8 h12
 have z13:=z 12 h13
 repeat' first|(refine gS ?_;simp only[go_sem,z1,z2,z3,z4,z5,z6,z7,z8,z9,z10,z11,z12,z13])|refine gA ?_|(refine gD (fun h=>?_) (fun h=>?_)<;>try exact aA h)|fail
 exact bL (.of (by simp[rS,h1,h2,h3,h4,h5,h6,h7,h8,h9,h10,h11,h12,h13]))
theorem aGw(s:Txt)(hs:s.length≤1048576)(H:AHeap):bD Tryz.prog 45 [.str s] H (.bool (dW s)):=by
 refine fO Tryz.func45 ?_
 have h:=aCB s hs
 unfold vK at h
 unfold dW
 cases hn:bV s with
 |none=>
  simp only[hn]at h
  repeat' first|(refine gS ?_;simp only[go_sem,Int.reduceEq])|refine gA ?_|(refine gD (fun h=>?_) (fun h=>?_)<;>try exact aA h)|fail
  exact bL (.refl _)
 |some l=>
  simp only[hn]at h
  repeat' first|(refine gS ?_;simp only[go_sem,Int.reduceEq])|refine gA ?_|(refine gD (fun h=>?_) (fun h=>?_)<;>try exact aA h)|fail
  exact bL (.refl _)
theorem vN(p part:Int)(r e:Bool)(i:Nat)(G:AHeap)(hh:hget G i=.cells 0 [.int .i64 p]):bD Tryz.prog 44 [.int .i64 part,.bool r,.bool e,.ref i 0 0] G (.bool (fH p part r e)):=by
 refine fO Tryz.func44 ?_
 unfold fH
 by_cases h:nX .and .i64 p part=0
 ·rw[zAc h]
  have hz:decide (nX .and .i64 p part=0)=true:=zAd h
  repeat' first|(refine gS ?_;simp only[go_sem,hh,hz])|refine gA ?_|(refine gD (fun h=>?_) (fun h=>?_)<;>try exact aA h)|fail
  exact bL (.refl _)
 ·rw[zAb h]
  have hz:decide (nX .and .i64 p part=0)=false:=eT h
  repeat' first|(refine gS ?_;simp only[go_sem,hh,hz])|refine gA ?_|(refine gD (fun h=>?_) (fun h=>?_)<;>try exact aA h)|fail
  exact bL (.refl _)
theorem aKl(c:Cal)(hp:c.path.length≤1048576)(ht:c.to.length≤1048576)(H:AHeap):bD Tryz.prog 20 [fJ c] H (.bool (chkC c)):=by
 refine fO Tryz.func20 ?_
 have hh:=aRd c.kind
 have h1:=aGw c.path hp
 have h2:=aGw c.to ht
 unfold chkC
 cases hk:rS c.kind with
 |none=>
  simp only[hk,zBV,zBy]at hh ⊢
  repeat' first|(refine gS ?_;simp only[go_sem,fJ])|refine gA ?_|(refine gD (fun h=>?_) (fun h=>?_)<;>try exact aA h)|fail
  exact dY (.refl _)
 |some p=>
  simp only[hk,zBs,zBf]at hh ⊢
  have f1:=vN p 1 (dW c.path) (decide (c.path=[])) (H.length+1) (H++[.cells 0 [.int .i64 c.kind,.str c.path,.str c.to,.str c.data,.int .i64 c.n],.cells 0 [.int .i64 p]]) (by simp only[go_sem])
  have f2:=vN p 2 (dW c.to) (decide (c.to=[])) (H.length+1) (H++[.cells 0 [.int .i64 c.kind,.str c.path,.str c.to,.str c.data,.int .i64 c.n],.cells 0 [.int .i64 p]]) (by simp only[go_sem])
  have f4:=vN p 8 (decide (0≤c.n)) (decide (c.n=0)) (H.length+1) (H++[.cells 0 [.int .i64 c.kind,.str c.path,.str c.to,.str c.data,.int .i64 c.n],.cells 0 [.int .i64 p]]) (by simp only[go_sem])
  by_cases h13:c.kind=13
  ·have hd:decide (c.kind=13)=true:=zAd h13
   rw[zAc h13]
   have f3:=vN p 4 (decide ((c.data.length:Int)≤4000)) (decide (c.data=[])) (H.length+1) (H++[.cells 0 [.int .i64 c.kind,.str c.path,.str c.to,.str c.data,.int .i64 c.n],.cells 0 [.int .i64 p]]) (by simp only[go_sem])
   generalize fH p 1 (dW c.path) (decide (c.path=[]))=x1 at *
   generalize fH p 2 (dW c.to) (decide (c.to=[]))=x2 at *
   generalize fH p 4 (decide ((c.data.length:Int)≤4000)) (decide (c.data=[]))=x3 at *
   generalize fH p 8 (decide (0≤c.n)) (decide (c.n=0))=x4 at *
   cases x1<;>cases x2<;>cases x3
   all_goals(repeat' first|((first|refine eH (f1) (cO) ?_|refine eJ (fun _=>f1) (cO) ?_|refine eK (fun _=>f1) (cO) ?_|refine eH (f2) (cO) ?_|refine eJ (fun _=>f2) (cO) ?_|refine eK (fun _=>f2) (cO) ?_|refine eH (f3) (cO) ?_|refine eJ (fun _=>f3) (cO) ?_|refine eK (fun _=>f3) (cO) ?_|refine eH (f4) (cO) ?_|refine eJ (fun _=>f4) (cO) ?_|refine eK (fun _=>f4) (cO) ?_|refine gS ?_);simp only[go_sem,fJ,hd])|refine gA ?_|(refine gD (fun h=>?_) (fun h=>?_)<;>try exact aA h)|fail)
   all_goals exact dY (.refl _)
  ·have hd:decide (c.kind=13)=false:=eT h13
   rw[zAb h13]
   have f3:=vN p 4 (decide ((c.data.length:Int)≤64)) (decide (c.data=[])) (H.length+1) (H++[.cells 0 [.int .i64 c.kind,.str c.path,.str c.to,.str c.data,.int .i64 c.n],.cells 0 [.int .i64 p]]) (by simp only[go_sem])
   generalize fH p 1 (dW c.path) (decide (c.path=[]))=x1 at *
   generalize fH p 2 (dW c.to) (decide (c.to=[]))=x2 at *
   generalize fH p 4 (decide ((c.data.length:Int)≤64)) (decide (c.data=[]))=x3 at *
   generalize fH p 8 (decide (0≤c.n)) (decide (c.n=0))=x4 at *
   cases x1<;>cases x2<;>cases x3
   all_goals(repeat' first|((first|refine eH (f1) (cO) ?_|refine eJ (fun _=>f1) (cO) ?_|refine eK (fun _=>f1) (cO) ?_|refine eH (f2) (cO) ?_|refine eJ (fun _=>f2) (cO) ?_|refine eK (fun _=>f2) (cO) ?_|refine eH (f3) (cO) ?_|refine eJ (fun _=>f3) (cO) ?_|refine eK (fun _=>f3) (cO) ?_|refine eH (f4) (cO) ?_|refine eJ (fun _=>f4) (cO) ?_|refine eK (fun _=>f4) (cO) ?_|refine gS ?_);simp only[go_sem,fJ,hd])|refine gA ?_|(refine gD (fun h=>?_) (fun h=>?_)<;>try exact aA h)|fail)
   all_goals exact dY (.refl _)
end Go.Proofs.YtolbeecicikoaaaGreatDoor

/- The texts 23 of 51 beneath the rows of this seat (joined by program): the abstract machine, and what the functions answer. No condition. -/
import Derived.Test.YthhdnjiodklmmaaGreatDoorWorkAU
set_option linter.unusedSimpArgs false
set_option linter.unusedVariables false
set_option linter.unusedSectionVars false
/- call.Check: whether a call may be. No condition but the length of its paths. -/
namespace Go.Gw
open Go Go.Aw Go.Proofs.YthhdnjiodklmmaaGreatDoor
def iA(k:Int):Option Int:=if k=1∨k=2∨k=6∨k=10 then some 1 else if k=3 then some 5 else if k=4∨k=7 then some 9 else if k=5 then some 3 else if k=9∨k=11 then some 8 else if k=13 then some 4 else if k=8∨k=12 then some 0 else none
def jP(s:Txt):Bool:=(dJ s).isSome
def kE(p part:Int)(r e:Bool):Bool:=if cX .and .i64 p part=0 then e else r
def chkC(c:Cal):Bool:=match iA c.kind with
 |none=>false
 |some p=>kE p 1 (jP c.path) (decide (c.path=[]))&&(kE p 2 (jP c.to) (decide (c.to=[]))&&(kE p 4 (decide ((c.data.length:Int)≤if c.kind=13 then 4000 else 64)) (decide (c.data=[]))&&kE p 8 (decide (0≤c.n)) (decide (c.n=0))))
theorem aMh(k:Int):k=1∨k=2∨k=6∨k=10∨k=3∨k=4∨k=7∨k=5∨k=9∨k=11∨k=13∨k=8∨k=12∨
  ((k=1)=False∧(k=2)=False∧(k=6)=False∧(k=10)=False∧(k=3)=False∧(k=4)=False∧(k=7)=False∧(k=5)=False∧(k=9)=False∧(k=11)=False∧(k=13)=False∧(k=8)=False∧(k=12)=False):=by
 simp only[eq_iff_iff,iff_false];omega
end Go.Gw
namespace Go.Proofs.YthhdnjiodklmmaaGreatDoor
open Go Go.Aw Go.Gw
set_option linter.unusedSimpArgs false
set_option linter.unusedVariables false
set_option maxRecDepth 20000
set_option maxHeartbeats 4000000
theorem aQE(k:Int)(H:AHeap):cJ Tryz.prog 64 [.int .i64 k] H (.tup [.int .i64 ((iA k).getD 0),.bool (iA k).isSome]):=by
 refine aL Tryz.func64 rfl (Nat.le_of_ble_eq_true rfl) ?_
 rcases aMh k with rfl|rfl|rfl|rfl|rfl|rfl|rfl|rfl|rfl|rfl|rfl|rfl|rfl|⟨h1,h2,h3,h4,h5,h6,h7,h8,h9,h10,h11,h12,h13⟩
 iterate 13 focus ((repeat' first|(refine gS ?_;simp only[go_sem,Int.reduceEq])|refine gA ?_|(refine gD (fun h=>?_) (fun h=>?_)<;>try exact aA h)|fail);exact aY (by simp only[go_sem]) (.refl _))
 have z:∀m:Int,(k=m)=False→decide (k=m)=false:=fun m h=>by simp[h]
 have z1:=z 1 h1
 have z2:=z 2 h2
 have z3:=z 6 h3
 have z4:=z 10 h4
 have z5:=z 3 h5
 have z6:=z 4 h6
 have z7:=z 7 h7
 have z8:=z 5 h8
 have z9:=z 9 h9
 have z10:=z 11 h10
 have z11:=z 13 h11
 have z12:=z 8 h12
 have z13:=z 12 h13
 repeat' first|(refine gS ?_;simp only[go_sem,z1,z2,z3,z4,z5,z6,z7,z8,z9,z10,z11,z12,z13])|refine gA ?_|(refine gD (fun h=>?_) (fun h=>?_)<;>try exact aA h)|fail
 exact aY (by simp only[go_sem]) (.of (by simp[iA,h1,h2,h3,h4,h5,h6,h7,h8,h9,h10,h11,h12,h13]))
theorem aF0(s:Txt)(hs:s.length≤1048576)(H:AHeap):cJ Tryz.prog 66 [.str s] H (.bool (jP s)):=by
 refine aL Tryz.func66 rfl (Nat.le_of_ble_eq_true rfl) ?_
 have h:=aCv s hs
 unfold uR at h
 unfold jP
 cases hn:dJ s with
 |none=>
  simp only[hn]at h
  have ct0:=ct h eE;repeat' first|((first|refine gK ?_|refine gS ?_);simp only[go_sem,Int.reduceEq])|refine gA ?_|(refine gD (fun h=>?_) (fun h=>?_)<;>try exact aA h)|fail
  exact aY (by simp only[go_sem]) (.refl _)
 |some l=>
  simp only[hn]at h
  have ct0:=ct h eE;repeat' first|((first|refine gK ?_|refine gS ?_);simp only[go_sem,Int.reduceEq])|refine gA ?_|(refine gD (fun h=>?_) (fun h=>?_)<;>try exact aA h)|fail
  exact aY (by simp only[go_sem]) (.refl _)
theorem uX(p part:Int)(r e:Bool)(i:Nat)(G:AHeap)(hh:hget G i=.cells 0 [.int .i64 p]):cJ Tryz.prog 65 [.int .i64 part,.bool r,.bool e,.ref i 0 0] G (.bool (kE p part r e)):=by
 refine aL Tryz.func65 rfl (Nat.le_of_ble_eq_true rfl) ?_
 unfold kE
 by_cases h:cX .and .i64 p part=0
 ·rw[if_pos h]
  have hz:decide (cX .and .i64 p part=0)=true:=decide_eq_true h
  repeat' first|(refine gS ?_;simp only[go_sem,hh,hz])|refine gA ?_|(refine gD (fun h=>?_) (fun h=>?_)<;>try exact aA h)|fail
  exact aY (by simp only[go_sem]) (.refl _)
 ·rw[if_neg h]
  have hz:decide (cX .and .i64 p part=0)=false:=decide_eq_false h
  repeat' first|(refine gS ?_;simp only[go_sem,hh,hz])|refine gA ?_|(refine gD (fun h=>?_) (fun h=>?_)<;>try exact aA h)|fail
  exact aY (by simp only[go_sem]) (.refl _)
theorem aJL(c:Cal)(hp:c.path.length≤1048576)(ht:c.to.length≤1048576)(H:AHeap):cJ Tryz.prog 31 [gZ c] H (.bool (chkC c)):=by
 refine aL Tryz.func31 rfl (Nat.le_of_ble_eq_true rfl) ?_
 have hh:=aQE c.kind
 have h1:=aF0 c.path hp
 have h2:=aF0 c.to ht
 unfold chkC
 cases hk:iA c.kind with
 |none=>
  simp only[hk,Option.getD_none,Option.isSome_none]at hh ⊢
  have ct0:=ct hh wD;repeat' first|((first|refine gK ?_|refine gS ?_);simp only[go_sem,gZ])|refine gA ?_|(refine gD (fun h=>?_) (fun h=>?_)<;>try exact aA h)|fail
  exact done (by simp only[go_sem]) (.refl _)
 |some p=>
  simp only[hk,Option.getD_some,Option.isSome_some]at hh ⊢
  have f1:=uX p 1 (jP c.path) (decide (c.path=[])) (H.length+1) (H++[.cells 0 [.int .i64 c.kind,.str c.path,.str c.to,.str c.data,.int .i64 c.n],.cells 0 [.int .i64 p]]) (by simp only[go_sem])
  have f2:=uX p 2 (jP c.to) (decide (c.to=[])) (H.length+1) (H++[.cells 0 [.int .i64 c.kind,.str c.path,.str c.to,.str c.data,.int .i64 c.n],.cells 0 [.int .i64 p]]) (by simp only[go_sem])
  have f4:=uX p 8 (decide (0≤c.n)) (decide (c.n=0)) (H.length+1) (H++[.cells 0 [.int .i64 c.kind,.str c.path,.str c.to,.str c.data,.int .i64 c.n],.cells 0 [.int .i64 p]]) (by simp only[go_sem])
  by_cases h13:c.kind=13
  ·have hd:decide (c.kind=13)=true:=decide_eq_true h13
   rw[if_pos h13]
   have f3:=uX p 4 (decide ((c.data.length:Int)≤4000)) (decide (c.data=[])) (H.length+1) (H++[.cells 0 [.int .i64 c.kind,.str c.path,.str c.to,.str c.data,.int .i64 c.n],.cells 0 [.int .i64 p]]) (by simp only[go_sem])
   generalize kE p 1 (jP c.path) (decide (c.path=[]))=x1 at *
   generalize kE p 2 (jP c.to) (decide (c.to=[]))=x2 at *
   generalize kE p 4 (decide ((c.data.length:Int)≤4000)) (decide (c.data=[]))=x3 at *
   generalize kE p 8 (decide (0≤c.n)) (decide (c.n=0))=x4 at *
   cases x1<;>cases x2<;>cases x3
   all_goals(have ct0:=ct hh wD;have ct1:=ct h1 rG;have ct2:=ct h2 rG;repeat' first|((first|refine gK ?_|refine eW (f1) cA ?_|refine eX (fun _=>f1) cA ?_|refine eY (fun _=>f1) cA ?_|refine eW (f2) cA ?_|refine eX (fun _=>f2) cA ?_|refine eY (fun _=>f2) cA ?_|refine eW (f3) cA ?_|refine eX (fun _=>f3) cA ?_|refine eY (fun _=>f3) cA ?_|refine eW (f4) cA ?_|refine eX (fun _=>f4) cA ?_|refine eY (fun _=>f4) cA ?_|refine gS ?_);simp only[go_sem,gZ,hd])|refine gA ?_|(refine gD (fun h=>?_) (fun h=>?_)<;>try exact aA h)|fail)
   all_goals exact done (by simp only[go_sem]) (.refl _)
  ·have hd:decide (c.kind=13)=false:=decide_eq_false h13
   rw[if_neg h13]
   have f3:=uX p 4 (decide ((c.data.length:Int)≤64)) (decide (c.data=[])) (H.length+1) (H++[.cells 0 [.int .i64 c.kind,.str c.path,.str c.to,.str c.data,.int .i64 c.n],.cells 0 [.int .i64 p]]) (by simp only[go_sem])
   generalize kE p 1 (jP c.path) (decide (c.path=[]))=x1 at *
   generalize kE p 2 (jP c.to) (decide (c.to=[]))=x2 at *
   generalize kE p 4 (decide ((c.data.length:Int)≤64)) (decide (c.data=[]))=x3 at *
   generalize kE p 8 (decide (0≤c.n)) (decide (c.n=0))=x4 at *
   cases x1<;>cases x2<;>cases x3
   all_goals(have ct0:=ct hh wD;have ct1:=ct h1 rG;have ct2:=ct h2 rG;repeat' first|((first|refine gK ?_|refine eW (f1) cA ?_|refine eX (fun _=>f1) cA ?_|refine eY (fun _=>f1) cA ?_|refine eW (f2) cA ?_|refine eX (fun _=>f2) cA ?_|refine eY (fun _=>f2) cA ?_|refine eW (f3) cA ?_|refine eX (fun _=>f3) cA ?_|refine eY (fun _=>f3) cA ?_|refine eW (f4) cA ?_|refine eX (fun _=>f4) cA ?_|refine eY (fun _=>f4) cA ?_|refine gS ?_);simp only[go_sem,gZ,hd])|refine gA ?_|(refine gD (fun h=>?_) (fun h=>?_)<;>try exact aA h)|fail)
   all_goals exact done (by simp only[go_sem]) (.refl _)
end Go.Proofs.YthhdnjiodklmmaaGreatDoor

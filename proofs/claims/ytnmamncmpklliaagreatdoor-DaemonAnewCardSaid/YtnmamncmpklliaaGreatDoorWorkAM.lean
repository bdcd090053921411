/- What the functions of this seat answer (13 of 53). No condition. -/
import Derived.Test.YtnmamncmpklliaaGreatDoorWorkAJ
set_option linter.unusedSimpArgs false
set_option linter.unusedVariables false
set_option maxRecDepth 100000
set_option maxHeartbeats 16000000
namespace Go.Proofs.YtnmamncmpklliaaGreatDoor
open Go.Proofs.Tryz
def BA(k:Int):Option Int:=if k=1\/k=2\/k=6\/k=10 then some 1 else if k=3 then some 5 else if k=4\/k=7 then some 9 else if k=5 then some 3 else if k=9\/k=11 then some 8 else if k=13 then some 4 else if k=8\/k=12 then some 0 else none
def xN(s:ag):Bool:=(gB s).isSome
def rG(p part:Int)(r e:Bool):Bool:=if na .and .i64 p part=0 then e else r
def rT(c:b8):Bool:=match BA c.kind with
 |none=>false
 |some p=>rG p 1 (xN c.path) (decide<|c.path=[])&&(rG p 2 (xN c.to) (decide<|c.to=[])&&(rG p 4 (decide<|(c.data.length:Int)<=if c.kind=13 then 4000 else 64) (decide<|c.data=[])&&rG p 8 (decide<|0<=c.n) (decide<|c.n=0)))
theorem aIA(k:Int):k=1\/k=2\/k=6\/k=10\/k=3\/k=4\/k=7\/k=5\/k=9\/k=11\/k=13\/k=8\/k=12\/
  ((k=1)=False/\(k=2)=False/\(k=6)=False/\(k=10)=False/\(k=3)=False/\(k=4)=False/\(k=7)=False/\(k=5)=False/\(k=9)=False/\(k=11)=False/\(k=13)=False/\(k=8)=False/\(k=12)=False):=by
 simp only[eq_iff_iff,iff_false];omega
theorem aKm(k:Int)(H:ab):aM prog 141 [.int .i64 k] H (.aQ [.int .i64 ((BA k).getD 0),.bool (BA k).isSome]):=by
 refine aZ func141 ?_;rcases aIA k with rfl|rfl|rfl|rfl|rfl|rfl|rfl|rfl|rfl|rfl|rfl|rfl|rfl|⟨h1,h2,h3,h4,J,U,K,O,T,V,Z,I,w9⟩;iterate 13 focus ((repeat' first|(refine ae ?_;simp only[go_sem,Int.reduceEq])|refine ao ?_|fail);exact bD<|.refl _)
 have z:∀m:Int,(k=m)=False->decide (k=m)=false:=λm h=>by simp[h]
 have jO:=z 1 h1;have z2:=z 2 h2;have z3:=z 6 h3;have z4:=z 10 h4;have z5:=z 3 J;have aYA:=z 4 U;have aYB:=z 7 K;have aYC:=z 5 O;have z9:=z 9 T;have aYx:=z 11 V;have aYy:=z 13 Z;have z12:=z 8 I;have aYz:=z 12 w9;refine hH ?_;exact bD<|.of (by simp[BA,h1,h2,h3,h4,J,U,K,O,T,V,Z,I,w9])
theorem Wm(s:ag)(hs:s.length<=1048576)(H:ab):aM prog 143 [.str s] H (.bool<|xN s):=by
 refine aZ func143 ?_;have h:=Gj s hs;unfold ly at h;unfold xN;cases af:gB s with
 |none=>
  simp only[af]at h;repeat' first|(refine ae ?_;simp only[go_sem,Int.reduceEq])|refine ao ?_|fail
  exact bD<|.refl _
 |some l=>
  simp only[af]at h;refine hH ?_;exact bD<|.refl _
theorem JJ(p part:Int)(r e:Bool)(i:Nat)(G:ab)(U:ay G i=.cells 0 [.int .i64 p]):aM prog 142 [.int .i64 part,.bool r,.bool e,.ref i 0 0] G (.bool<|rG p part r e):=by
 refine aZ func142 ?_;unfold rG;by_cases h:na .and .i64 p part=0
 ·rw[aA h];have J:decide (na .and .i64 p part=0)=true:=cD h;refine hH ?_;exact bD<|.refl _
 ·rw[aj h];have J:decide (na .and .i64 p part=0)=false:=bN h;refine hH ?_;exact bD<|.refl _
theorem aF9(c:b8)(ad:c.path.length<=1048576)(ah:c.to.length<=1048576)(H:ab):aM prog 90 [c4 c] H (.bool<|rT c):=by
 refine aZ func90 ?_;have T:=aKm c.kind;have h1:=Wm c.path ad;have h2:=Wm c.to ah;unfold rT;cases hk:BA c.kind with
 |none=>
  simp only[hk,Dt,Dn]at T ⊢;refine bP c4.eq_1 ?_;exact aV<|.refl _
 |some p=>
  simp only[hk,pW,zn]at T ⊢;have f1:=JJ p 1 (xN c.path) (decide (c.path=[])) (H.length+1) (H++[.cells 0 [.int .i64 c.kind,.str c.path,.str c.to,.str c.data,.int .i64 c.n],.cells 0 [.int .i64 p]]) nb
  have f2:=JJ p 2 (xN c.to) (decide (c.to=[])) (H.length+1) (H++[.cells 0 [.int .i64 c.kind,.str c.path,.str c.to,.str c.data,.int .i64 c.n],.cells 0 [.int .i64 p]]) nb
  have f4:=JJ p 8 (decide (0<=c.n)) (decide (c.n=0)) (H.length+1) (H++[.cells 0 [.int .i64 c.kind,.str c.path,.str c.to,.str c.data,.int .i64 c.n],.cells 0 [.int .i64 p]]) nb
  by_cases J:c.kind=13
  ·have hd:decide (c.kind=13)=true:=cD J;rw[aA J];have f3:=JJ p 4 (decide ((c.data.length:Int)<=4000)) (decide (c.data=[])) (H.length+1) (H++[.cells 0 [.int .i64 c.kind,.str c.path,.str c.to,.str c.data,.int .i64 c.n],.cells 0 [.int .i64 p]]) nb
   generalize rG p 1 (xN c.path) (decide<|c.path=[])=U at *;generalize rG p 2 (xN c.to) (decide<|c.to=[])=K at *;generalize rG p 4 (decide<|(c.data.length:Int)<=4000) (decide<|c.data=[])=O at *;generalize rG p 8 (decide<|0<=c.n) (decide<|c.n=0)=V at *;cases U<;>cases K<;>cases O;all_goals(repeat' first|((first|refine Ag f1 ?_|refine Ag f2 ?_|refine Ag f3 ?_|refine Ag f4 ?_|refine ae ?_);simp only[go_sem,c4,hd])|refine ao ?_|fail)
   all_goals exact aV<|.refl _
  ·have hd:decide (c.kind=13)=false:=bN J;rw[aj J];have f3:=JJ p 4 (decide ((c.data.length:Int)<=64)) (decide (c.data=[])) (H.length+1) (H++[.cells 0 [.int .i64 c.kind,.str c.path,.str c.to,.str c.data,.int .i64 c.n],.cells 0 [.int .i64 p]]) nb
   generalize rG p 1 (xN c.path) (decide<|c.path=[])=U at *;generalize rG p 2 (xN c.to) (decide<|c.to=[])=K at *;generalize rG p 4 (decide<|(c.data.length:Int)<=64) (decide<|c.data=[])=O at *;generalize rG p 8 (decide<|0<=c.n) (decide<|c.n=0)=V at *;cases U<;>cases K<;>cases O;all_goals(repeat' first|((first|refine Ag f1 ?_|refine Ag f2 ?_|refine Ag f3 ?_|refine Ag f4 ?_|refine ae ?_);simp only[go_sem,c4,hd])|refine ao ?_|fail)
   all_goals exact aV<|.refl _
end Go.Proofs.YtnmamncmpklliaaGreatDoor

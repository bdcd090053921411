/- What the functions of this seat answer (14 of 40). No condition. -/
import Derived.Test.YtigedpfipifefaaGreatDoorWorkAL
set_option linter.unusedSimpArgs false
set_option linter.unusedVariables false
set_option maxRecDepth 100000
set_option maxHeartbeats 16000000
namespace Go.Proofs.YtigedpfipifefaaGreatDoor
def eR(k:Int):Option Int:=if k=1∨k=2∨k=6∨k=10 then some 1 else if k=3 then some 5 else if k=4∨k=7 then some 9 else if k=5 then some 3 else if k=9∨k=11 then some 8 else if k=13 then some 4 else if k=8∨k=12 then some 0 else none
def lU(s:Txt):Bool:=(iU s).isSome
def jJ(p part:Int)(r e:Bool):Bool:=if aY .and .i64 p part=0 then e else r
def chkC(c:Cal):Bool:=match eR c.kind with
 |none=>false
 |some p=>jJ p 1 (lU c.path) (decide (c.path=[]))&&(jJ p 2 (lU c.to) (decide (c.to=[]))&&(jJ p 4 (decide ((c.data.length:Int)≤if c.kind=13 then 4000 else 64)) (decide (c.data=[]))&&jJ p 8 (decide (0≤c.n)) (decide (c.n=0))))
theorem aGk(k:Int):k=1∨k=2∨k=6∨k=10∨k=3∨k=4∨k=7∨k=5∨k=9∨k=11∨k=13∨k=8∨k=12∨
  ((k=1)=False∧(k=2)=False∧(k=6)=False∧(k=10)=False∧(k=3)=False∧(k=4)=False∧(k=7)=False∧(k=5)=False∧(k=9)=False∧(k=11)=False∧(k=13)=False∧(k=8)=False∧(k=12)=False):=by
 simp only[eq_iff_iff,iff_false];omega
theorem aAi(k:Int)(H:AHeap):bJ Tryz.prog 41 [.int .i64 k] H (.tup [.int .i64 ((eR k).getD 0),.bool (eR k).isSome]):=by
 refine fO Tryz.func41 ?_;rcases aGk k with rfl|rfl|rfl|rfl|rfl|rfl|rfl|rfl|rfl|rfl|rfl|rfl|rfl|⟨h1,h2,h3,h4,h5,h6,h7,h8,h9,h10,h11,h12,h13⟩;iterate 13 focus ((repeat' first|(refine gS ?_;simp only[go_sem,Int.reduceEq])|refine gA ?_|(refine gD ?_ ?_<;>intro h<;>try exact aD h)|fail);exact cU (.refl _))
 have z:∀m:Int,(k=m)=False→decide (k=m)=false:=fun m h=>by simp[h]
 have z1:=z 1 h1;have z2:=z 2 h2;have z3:=z 6 h3;have z4:=z 10 h4;have z5:=z 3 h5;have z6:=z 4 h6;have z7:=z 7 h7;have z8:=z 5 h8;have z9:=z 9 h9;have z10:=z 11 h10;have z11:=z 13 h11;have z12:=z 8 h12;have z13:=z 12 h13;repeat' first|(refine gS ?_;simp only[go_sem,z1,z2,z3,z4,z5,z6,z7,z8,z9,z10,z11,z12,z13])|refine gA ?_|(refine gD ?_ ?_<;>intro h<;>try exact aD h)|fail
 exact cU (.of (by simp[eR,h1,h2,h3,h4,h5,h6,h7,h8,h9,h10,h11,h12,h13]))
theorem aA6(s:Txt)(hs:s.length≤1048576)(H:AHeap):bJ Tryz.prog 43 [.str s] H (.bool (lU s)):=by
 refine fO Tryz.func43 ?_;have h:=aJj s hs;unfold aA5 at h;unfold lU;cases hn:iU s with
 |none=>
  simp only[hn]at h;repeat' first|(refine gS ?_;simp only[go_sem,Int.reduceEq])|refine gA ?_|(refine gD ?_ ?_<;>intro h<;>try exact aD h)|fail
  exact cU (.refl _)
 |some l=>
  simp only[hn]at h;repeat' first|(refine gS ?_;simp only[go_sem,Int.reduceEq])|refine gA ?_|(refine gD ?_ ?_<;>intro h<;>try exact aD h)|fail
  exact cU (.refl _)
theorem nI(p part:Int)(r e:Bool)(i:Nat)(G:AHeap)(hh:hget G i=.cells 0 [.int .i64 p]):bJ Tryz.prog 42 [.int .i64 part,.bool r,.bool e,.ref i 0 0] G (.bool (jJ p part r e)):=by
 refine fO Tryz.func42 ?_;unfold jJ;by_cases h:aY .and .i64 p part=0
 ·rw[zAp h];have hz:decide (aY .and .i64 p part=0)=true:=zAg h;repeat' first|(refine gS ?_;simp only[go_sem,hh,hz])|refine gA ?_|(refine gD ?_ ?_<;>intro h<;>try exact aD h)|fail
  exact cU (.refl _)
 ·rw[zAk h];have hz:decide (aY .and .i64 p part=0)=false:=zAh h;repeat' first|(refine gS ?_;simp only[go_sem,hh,hz])|refine gA ?_|(refine gD ?_ ?_<;>intro h<;>try exact aD h)|fail
  exact cU (.refl _)
theorem rO(c:Cal)(hp:c.path.length≤1048576)(ht:c.to.length≤1048576)(H:AHeap):bJ Tryz.prog 24 [pB c] H (.bool (chkC c)):=by
 refine fO Tryz.func24 ?_;have hh:=aAi c.kind;have h1:=aA6 c.path hp;have h2:=aA6 c.to ht;unfold chkC;cases hk:eR c.kind with
 |none=>
  simp only[hk,Option.getD_none,Option.isSome_none]at hh ⊢;repeat' first|(refine gS ?_;simp only[go_sem,pB])|refine gA ?_|(refine gD ?_ ?_<;>intro h<;>try exact aD h)|fail
  exact dY (.refl _)
 |some p=>
  simp only[hk,Option.getD_some,Option.isSome_some]at hh ⊢;have f1:=nI p 1 (lU c.path) (decide (c.path=[])) (H.length+1) (H++[.cells 0 [.int .i64 c.kind,.str c.path,.str c.to,.str c.data,.int .i64 c.n],.cells 0 [.int .i64 p]]) (by simp only[go_sem])
  have f2:=nI p 2 (lU c.to) (decide (c.to=[])) (H.length+1) (H++[.cells 0 [.int .i64 c.kind,.str c.path,.str c.to,.str c.data,.int .i64 c.n],.cells 0 [.int .i64 p]]) (by simp only[go_sem])
  have f4:=nI p 8 (decide (0≤c.n)) (decide (c.n=0)) (H.length+1) (H++[.cells 0 [.int .i64 c.kind,.str c.path,.str c.to,.str c.data,.int .i64 c.n],.cells 0 [.int .i64 p]]) (by simp only[go_sem])
  by_cases h13:c.kind=13
  ·have hd:decide (c.kind=13)=true:=zAg h13;rw[zAp h13];have f3:=nI p 4 (decide ((c.data.length:Int)≤4000)) (decide (c.data=[])) (H.length+1) (H++[.cells 0 [.int .i64 c.kind,.str c.path,.str c.to,.str c.data,.int .i64 c.n],.cells 0 [.int .i64 p]]) (by simp only[go_sem])
   generalize jJ p 1 (lU c.path) (decide (c.path=[]))=x1 at *;generalize jJ p 2 (lU c.to) (decide (c.to=[]))=x2 at *;generalize jJ p 4 (decide ((c.data.length:Int)≤4000)) (decide (c.data=[]))=x3 at *;generalize jJ p 8 (decide (0≤c.n)) (decide (c.n=0))=x4 at *;cases x1<;>cases x2<;>cases x3;all_goals(repeat' first|((first|refine eV (f1) (cO) ?_|refine eW (fun _=>f1) (cO) ?_|refine eX (fun _=>f1) (cO) ?_|refine eV (f2) (cO) ?_|refine eW (fun _=>f2) (cO) ?_|refine eX (fun _=>f2) (cO) ?_|refine eV (f3) (cO) ?_|refine eW (fun _=>f3) (cO) ?_|refine eX (fun _=>f3) (cO) ?_|refine eV (f4) (cO) ?_|refine eW (fun _=>f4) (cO) ?_|refine eX (fun _=>f4) (cO) ?_|refine gS ?_);simp only[go_sem,pB,hd])|refine gA ?_|(refine gD ?_ ?_<;>intro h<;>try exact aD h)|fail)
   all_goals exact dY (.refl _)
  ·have hd:decide (c.kind=13)=false:=zAh h13;rw[zAk h13];have f3:=nI p 4 (decide ((c.data.length:Int)≤64)) (decide (c.data=[])) (H.length+1) (H++[.cells 0 [.int .i64 c.kind,.str c.path,.str c.to,.str c.data,.int .i64 c.n],.cells 0 [.int .i64 p]]) (by simp only[go_sem])
   generalize jJ p 1 (lU c.path) (decide (c.path=[]))=x1 at *;generalize jJ p 2 (lU c.to) (decide (c.to=[]))=x2 at *;generalize jJ p 4 (decide ((c.data.length:Int)≤64)) (decide (c.data=[]))=x3 at *;generalize jJ p 8 (decide (0≤c.n)) (decide (c.n=0))=x4 at *;cases x1<;>cases x2<;>cases x3;all_goals(repeat' first|((first|refine eV (f1) (cO) ?_|refine eW (fun _=>f1) (cO) ?_|refine eX (fun _=>f1) (cO) ?_|refine eV (f2) (cO) ?_|refine eW (fun _=>f2) (cO) ?_|refine eX (fun _=>f2) (cO) ?_|refine eV (f3) (cO) ?_|refine eW (fun _=>f3) (cO) ?_|refine eX (fun _=>f3) (cO) ?_|refine eV (f4) (cO) ?_|refine eW (fun _=>f4) (cO) ?_|refine eX (fun _=>f4) (cO) ?_|refine gS ?_);simp only[go_sem,pB,hd])|refine gA ?_|(refine gD ?_ ?_<;>intro h<;>try exact aD h)|fail)
   all_goals exact dY (.refl _)
end Go.Proofs.YtigedpfipifefaaGreatDoor

/- What the functions of this seat answer (12 of 38). No condition. -/
import Derived.Test.YtennnelammaapaaGreatDoorWorkAK
set_option linter.unusedSimpArgs false
set_option linter.unusedVariables false
set_option maxRecDepth 100000
set_option maxHeartbeats 16000000
namespace Go.Proofs.YtennnelammaapaaGreatDoor
section
def uJ(k:Int):Option Int:=if k=1∨k=2∨k=6∨k=10 then some 1 else if k=3 then some 5 else if k=4∨k=7 then some 9 else if k=5 then some 3 else if k=9∨k=11 then some 8 else if k=13 then some 4 else if k=8∨k=12 then some 0 else none
def tV(s:Txt):Bool:=(bM s).isSome
def uK(p part:Int)(r e:Bool):Bool:=if nA .and .i64 p part=0 then e else r
def chkC(c:Cal):Bool:=match uJ c.kind with
 |none=>false
 |some p=>uK p 1 (tV c.path) (decide (c.path=[]))&&(uK p 2 (tV c.to) (decide (c.to=[]))&&(uK p 4 (decide ((c.data.length:Int)≤if c.kind=13 then 4000 else 64)) (decide (c.data=[]))&&uK p 8 (decide (0≤c.n)) (decide (c.n=0))))
theorem aOj(k:Int):k=1∨k=2∨k=6∨k=10∨k=3∨k=4∨k=7∨k=5∨k=9∨k=11∨k=13∨k=8∨k=12∨
  ((k=1)=False∧(k=2)=False∧(k=6)=False∧(k=10)=False∧(k=3)=False∧(k=4)=False∧(k=7)=False∧(k=5)=False∧(k=9)=False∧(k=11)=False∧(k=13)=False∧(k=8)=False∧(k=12)=False):=by
 simp only[eq_iff_iff,iff_false];omega
theorem aSm(k:Int)(H:AHeap):bH Tryz.prog 117 [.int .i64 k] H (.tup [.int .i64 ((uJ k).getD 0),.bool (uJ k).isSome]):=by
 refine fO Tryz.func117 ?_;rcases aOj k with rfl|rfl|rfl|rfl|rfl|rfl|rfl|rfl|rfl|rfl|rfl|rfl|rfl|⟨h1,h2,h3,h4,h5,h6,h7,h8,h9,h10,h11,h12,h13⟩;iterate 13 focus ((repeat' first|(refine gS ?_;simp only[go_sem,Int.reduceEq])|refine gA ?_|(refine gD ?_ ?_<;>intro h<;>try exact aA h)|fail);exact cL (.refl _))
 have z:∀m:Int,(k=m)=False→decide (k=m)=false:=fun m h=>by simp[h]
 have z1:=z 1 h1;have z2:=z 2 h2;have z3:=z 6 h3;have z4:=z 10 h4;have z5:=z 3 h5;have z6:=z 4 h6;have z7:=z 7 h7;have z8:=z 5 h8;have z9:=z 9 h9;have z10:=z 11 h10;have z11:=z 13 h11;have z12:=z 8 h12;have z13:=z 12 h13;repeat' first|(refine gS ?_;simp only[go_sem,z1,z2,z3,z4,z5,z6,z7,z8,z9,z10,z11,z12,z13])|refine gA ?_|(refine gD ?_ ?_<;>intro h<;>try exact aA h)|fail
 exact cL (.of (by simp[uJ,h1,h2,h3,h4,h5,h6,h7,h8,h9,h10,h11,h12,h13]))
theorem aG3(s:Txt)(hs:s.length≤1048576)(H:AHeap):bH Tryz.prog 119 [.str s] H (.bool (tV s)):=by
 refine fO Tryz.func119 ?_;have h:=aBb s hs;unfold gY at h;unfold tV;cases hn:bM s with
 |none=>
  simp only[hn]at h;repeat' first|(refine gS ?_;simp only[go_sem,Int.reduceEq])|refine gA ?_|(refine gD ?_ ?_<;>intro h<;>try exact aA h)|fail
  exact cL (.refl _)
 |some l=>
  simp only[hn]at h;repeat' first|(refine gS ?_;simp only[go_sem,Int.reduceEq])|refine gA ?_|(refine gD ?_ ?_<;>intro h<;>try exact aA h)|fail
  exact cL (.refl _)
theorem vV(p part:Int)(r e:Bool)(i:Nat)(G:AHeap)(hh:hget G i=.cells 0 [.int .i64 p]):bH Tryz.prog 118 [.int .i64 part,.bool r,.bool e,.ref i 0 0] G (.bool (uK p part r e)):=by
 refine fO Tryz.func118 ?_;unfold uK;by_cases h:nA .and .i64 p part=0
 ·rw[zAl h];have hz:decide (nA .and .i64 p part=0)=true:=zAj h;repeat' first|(refine gS ?_;simp only[go_sem,hh,hz])|refine gA ?_|(refine gD ?_ ?_<;>intro h<;>try exact aA h)|fail
  exact cL (.refl _)
 ·rw[zAe h];have hz:decide (nA .and .i64 p part=0)=false:=zAg h;repeat' first|(refine gS ?_;simp only[go_sem,hh,hz])|refine gA ?_|(refine gD ?_ ?_<;>intro h<;>try exact aA h)|fail
  exact cL (.refl _)
theorem aKU(c:Cal)(hp:c.path.length≤1048576)(ht:c.to.length≤1048576)(H:AHeap):bH Tryz.prog 96 [dS c] H (.bool (chkC c)):=by
 refine fO Tryz.func96 ?_;have hh:=aSm c.kind;have h1:=aG3 c.path hp;have h2:=aG3 c.to ht;unfold chkC;cases hk:uJ c.kind with
 |none=>
  simp only[hk,zCw,zB4]at hh ⊢;repeat' first|(refine gS ?_;simp only[go_sem,dS])|refine gA ?_|(refine gD ?_ ?_<;>intro h<;>try exact aA h)|fail
  exact dY (.refl _)
 |some p=>
  simp only[hk,zBh,zBW]at hh ⊢;have f1:=vV p 1 (tV c.path) (decide (c.path=[])) (H.length+1) (H++[.cells 0 [.int .i64 c.kind,.str c.path,.str c.to,.str c.data,.int .i64 c.n],.cells 0 [.int .i64 p]]) (by simp only[go_sem])
  have f2:=vV p 2 (tV c.to) (decide (c.to=[])) (H.length+1) (H++[.cells 0 [.int .i64 c.kind,.str c.path,.str c.to,.str c.data,.int .i64 c.n],.cells 0 [.int .i64 p]]) (by simp only[go_sem])
  have f4:=vV p 8 (decide (0≤c.n)) (decide (c.n=0)) (H.length+1) (H++[.cells 0 [.int .i64 c.kind,.str c.path,.str c.to,.str c.data,.int .i64 c.n],.cells 0 [.int .i64 p]]) (by simp only[go_sem])
  by_cases h13:c.kind=13
  ·have hd:decide (c.kind=13)=true:=zAj h13;rw[zAl h13];have f3:=vV p 4 (decide ((c.data.length:Int)≤4000)) (decide (c.data=[])) (H.length+1) (H++[.cells 0 [.int .i64 c.kind,.str c.path,.str c.to,.str c.data,.int .i64 c.n],.cells 0 [.int .i64 p]]) (by simp only[go_sem])
   generalize uK p 1 (tV c.path) (decide (c.path=[]))=x1 at *;generalize uK p 2 (tV c.to) (decide (c.to=[]))=x2 at *;generalize uK p 4 (decide ((c.data.length:Int)≤4000)) (decide (c.data=[]))=x3 at *;generalize uK p 8 (decide (0≤c.n)) (decide (c.n=0))=x4 at *;cases x1<;>cases x2<;>cases x3;all_goals(repeat' first|((first|refine bU (f1) (cO) ?_|refine bV (fun _=>f1) (cO) ?_|refine bW (fun _=>f1) (cO) ?_|refine bU (f2) (cO) ?_|refine bV (fun _=>f2) (cO) ?_|refine bW (fun _=>f2) (cO) ?_|refine bU (f3) (cO) ?_|refine bV (fun _=>f3) (cO) ?_|refine bW (fun _=>f3) (cO) ?_|refine bU (f4) (cO) ?_|refine bV (fun _=>f4) (cO) ?_|refine bW (fun _=>f4) (cO) ?_|refine gS ?_);simp only[go_sem,dS,hd])|refine gA ?_|(refine gD ?_ ?_<;>intro h<;>try exact aA h)|fail)
   all_goals exact dY (.refl _)
  ·have hd:decide (c.kind=13)=false:=zAg h13;rw[zAe h13];have f3:=vV p 4 (decide ((c.data.length:Int)≤64)) (decide (c.data=[])) (H.length+1) (H++[.cells 0 [.int .i64 c.kind,.str c.path,.str c.to,.str c.data,.int .i64 c.n],.cells 0 [.int .i64 p]]) (by simp only[go_sem])
   generalize uK p 1 (tV c.path) (decide (c.path=[]))=x1 at *;generalize uK p 2 (tV c.to) (decide (c.to=[]))=x2 at *;generalize uK p 4 (decide ((c.data.length:Int)≤64)) (decide (c.data=[]))=x3 at *;generalize uK p 8 (decide (0≤c.n)) (decide (c.n=0))=x4 at *;cases x1<;>cases x2<;>cases x3;all_goals(repeat' first|((first|refine bU (f1) (cO) ?_|refine bV (fun _=>f1) (cO) ?_|refine bW (fun _=>f1) (cO) ?_|refine bU (f2) (cO) ?_|refine bV (fun _=>f2) (cO) ?_|refine bW (fun _=>f2) (cO) ?_|refine bU (f3) (cO) ?_|refine bV (fun _=>f3) (cO) ?_|refine bW (fun _=>f3) (cO) ?_|refine bU (f4) (cO) ?_|refine bV (fun _=>f4) (cO) ?_|refine bW (fun _=>f4) (cO) ?_|refine gS ?_);simp only[go_sem,dS,hd])|refine gA ?_|(refine gD ?_ ?_<;>intro h<;>try exact aA h)|fail)
   all_goals exact dY (.refl _)
end
section
theorem aKV{a b:AV}(h:Sim a b):∀(i:Nat) (x y:AV),[a][i]?=some x→[b][i]?=some y→Sim x y:=aP h dE
def aEj(c:Cal):AV:=if turnsK c=true then .iface 114 (dS c)else if walksK c=true then .iface 142 (.agg [.sl false ((wnames c).map AV.str)])else .iface 138 (.agg [])
theorem aOk(l:List Txt):∀e∈l.map AV.str,Pur e:=fun e he=>by
 obtain⟨x,_,rfl⟩:=zAm.1 he;exact .str _
theorem bS{n:Nat}{H L:AHeap}{f:Bool}{l m:List Txt}(e:l=m):∃L' y,H++L=H++L'∧Frz n (H++L) (.iface 142 (.agg [.sl f (l.map AV.str)])) y∧y=.iface 142 (.agg [.sl false (m.map AV.str)]):=by
 subst e;exact done (.iface _ _ (.agg _ (by simp only[zAq,forall_eq];exact .sl _ _ (aOk l)))) (.iface _ _ _ (.agg _ _ rfl (aKV (.sl _ _))))
theorem aFF(k:Int):k=4∨k=7∨k=1∨k=2∨k=3∨k=10∨k=5∨k=6∨k=13∨((k=4)=False∧(k=7)=False∧(k=1)=False∧(k=2)=False∧(k=3)=False∧(k=10)=False∧(k=5)=False∧(k=6)=False∧(k=13)=False):=by
 simp only[eq_iff_iff,iff_false];omega
theorem aG4(c:Cal)(hp:c.path.length≤1048576)(H:AHeap):bH Tryz.prog 45 [dS c] H (aEj c):=by
 refine fO Tryz.func45 ?_;obtain⟨k,path,to,data,n⟩:=c;simp only at hp;have hpath:=aBb path hp;have hn:(∀l,bM path=some l→l.length≤16):=fun l hl=>nJ hl
 rcases aFF k with rfl|rfl|rfl|rfl|rfl|rfl|rfl|rfl|rfl|⟨e1,e2,e3,e4,e5,e6,e7,e8,e9⟩;case inr.inr.inr.inr.inr.inr.inl=>
  repeat' first|(refine gS ?_;simp only[go_sem,dS,Int.reduceEq])|refine gA ?_|(refine gD ?_ ?_<;>intro h<;>try exact aA h)|fail
  exact dY (.refl _)
 case inr.inr.inr.inr.inr.inr.inr.inl=>
  repeat' first|(refine gS ?_;simp only[go_sem,dS,Int.reduceEq])|refine gA ?_|(refine gD ?_ ?_<;>intro h<;>try exact aA h)|fail
  exact dY (.refl _)
 case inr.inr.inr.inr.inr.inr.inr.inr.inl=>
  repeat' first|(refine gS ?_;simp only[go_sem,dS,Int.reduceEq])|refine gA ?_|(refine gD ?_ ?_<;>intro h<;>try exact aA h)|fail
  exact dY (.refl _)
 case inr.inr.inr.inr.inr.inr.inr.inr.inr=>
  repeat' first|(refine gS ?_;simp only[go_sem,dS,e1,e2,e3,e4,e5,e6,e7,e8,e9])|refine gA ?_|(refine gD ?_ ?_<;>intro h<;>try exact aA h)|fail
  exact dY (.of (by simp only[aEj,turnsK,walksK,e1,e2,e3,e4,e5,e6,e7,e8,e9];rfl))
 case inl=>
  by_cases h0:n=0
  ·subst h0;cases hns:bM path with
   |none=>
    simp only[gY,hns]at hpath;repeat' first|(refine gS ?_;simp only[go_sem,dS,Int.reduceEq])|refine gA ?_|(refine gD ?_ ?_<;>intro h<;>try exact aA h)|fail
    exact bS (l:=[]) (by simp only[wnames,hns])
   |some l=>
    simp only[gY,hns]at hpath;cases l with
    |nil=>
     repeat' first|(refine gS ?_;simp only[go_sem,dS,Int.reduceEq])|refine gA ?_|(refine gD ?_ ?_<;>intro h<;>try exact aA h)|fail
     exact bS (l:=[]) (by simp only[wnames,hns];rfl)
    |cons x xs=>
     have hl:=hn _ hns;rw[zAc]at hl;have hw:IntKind.i64.wrap (((xs.length+1:Nat):Int)-1)=(xs.length:Int):=by rw[wI];omega
     have hlz:decide ((0:Int)<((xs.length+1:Nat):Int))=true:=dT;have hb:((0:Int)≤(xs.length:Int)∧(xs.length:Int)≤((xs.length+1:Nat):Int))=True:=zAC (by omega)
     repeat' first|(refine gS ?_;simp only[go_sem,dS,Int.reduceEq,hw,hlz,hb,zAI,zAw])|refine gA ?_|(refine gD ?_ ?_<;>intro h<;>try exact aA h)|fail
     rw[←zAw (f:=AV.str),←zBG];exact bS (by simp only[wnames,hns];exact(zBV (l:=x::xs)).symm)
  ·have e0:(n=0)=False:=zDo h0;repeat' first|(refine gS ?_;simp only[go_sem,dS,Int.reduceEq,e0])|refine gA ?_|(refine gD ?_ ?_<;>intro h<;>try exact aA h)|fail
   exact dY (.of (by simp only[aEj,turnsK,walksK,e0];rfl))
 case inr.inl=>
  by_cases h0:n=0
  ·subst h0;cases hns:bM path with
   |none=>
    simp only[gY,hns]at hpath;repeat' first|(refine gS ?_;simp only[go_sem,dS,Int.reduceEq])|refine gA ?_|(refine gD ?_ ?_<;>intro h<;>try exact aA h)|fail
    exact bS (l:=[]) (by simp only[wnames,hns])
   |some l=>
    simp only[gY,hns]at hpath;cases l with
    |nil=>
     repeat' first|(refine gS ?_;simp only[go_sem,dS,Int.reduceEq])|refine gA ?_|(refine gD ?_ ?_<;>intro h<;>try exact aA h)|fail
     exact bS (l:=[]) (by simp only[wnames,hns];rfl)
    |cons x xs=>
     have hl:=hn _ hns;rw[zAc]at hl;have hw:IntKind.i64.wrap (((xs.length+1:Nat):Int)-1)=(xs.length:Int):=by rw[wI];omega
     have hlz:decide ((0:Int)<((xs.length+1:Nat):Int))=true:=dT;have hb:((0:Int)≤(xs.length:Int)∧(xs.length:Int)≤((xs.length+1:Nat):Int))=True:=zAC (by omega)
     repeat' first|(refine gS ?_;simp only[go_sem,dS,Int.reduceEq,hw,hlz,hb,zAI,zAw])|refine gA ?_|(refine gD ?_ ?_<;>intro h<;>try exact aA h)|fail
     exact bS (l:=x::xs) (by simp only[wnames,hns];rfl)
  ·have e0:(n=0)=False:=zDo h0;repeat' first|(refine gS ?_;simp only[go_sem,dS,Int.reduceEq,e0])|refine gA ?_|(refine gD ?_ ?_<;>intro h<;>try exact aA h)|fail
   exact dY (.of (by simp only[aEj,turnsK,walksK,e0];rfl))
 case inr.inr.inl=>
  cases hns:bM path with
  |none=>
   simp only[gY,hns]at hpath;repeat' first|(refine gS ?_;simp only[go_sem,dS,Int.reduceEq])|refine gA ?_|(refine gD ?_ ?_<;>intro h<;>try exact aA h)|fail
   exact bS (l:=[]) (by simp only[wnames,hns])
  |some l=>
   simp only[gY,hns]at hpath;cases l with
   |nil=>
    repeat' first|(refine gS ?_;simp only[go_sem,dS,Int.reduceEq])|refine gA ?_|(refine gD ?_ ?_<;>intro h<;>try exact aA h)|fail
    exact bS (l:=[]) (by simp only[wnames,hns];rfl)
   |cons x xs=>
    have hl:=hn _ hns;rw[zAc]at hl;have hw:IntKind.i64.wrap (((xs.length+1:Nat):Int)-1)=(xs.length:Int):=by rw[wI];omega
    have hlz:decide ((0:Int)<((xs.length+1:Nat):Int))=true:=dT;have hb:((0:Int)≤(xs.length:Int)∧(xs.length:Int)≤((xs.length+1:Nat):Int))=True:=zAC (by omega)
    repeat' first|(refine gS ?_;simp only[go_sem,dS,Int.reduceEq,hw,hlz,hb,zAI,zAw])|refine gA ?_|(refine gD ?_ ?_<;>intro h<;>try exact aA h)|fail
    rw[←zAw (f:=AV.str),←zBG];exact bS (by simp only[wnames,hns];exact(zBV (l:=x::xs)).symm)
 case inr.inr.inr.inl=>
  cases hns:bM path with
  |none=>
   simp only[gY,hns]at hpath;repeat' first|(refine gS ?_;simp only[go_sem,dS,Int.reduceEq])|refine gA ?_|(refine gD ?_ ?_<;>intro h<;>try exact aA h)|fail
   exact bS (l:=[]) (by simp only[wnames,hns])
  |some l=>
   simp only[gY,hns]at hpath;cases l with
   |nil=>
    repeat' first|(refine gS ?_;simp only[go_sem,dS,Int.reduceEq])|refine gA ?_|(refine gD ?_ ?_<;>intro h<;>try exact aA h)|fail
    exact bS (l:=[]) (by simp only[wnames,hns];rfl)
   |cons x xs=>
    have hl:=hn _ hns;rw[zAc]at hl;have hw:IntKind.i64.wrap (((xs.length+1:Nat):Int)-1)=(xs.length:Int):=by rw[wI];omega
    have hlz:decide ((0:Int)<((xs.length+1:Nat):Int))=true:=dT;have hb:((0:Int)≤(xs.length:Int)∧(xs.length:Int)≤((xs.length+1:Nat):Int))=True:=zAC (by omega)
    repeat' first|(refine gS ?_;simp only[go_sem,dS,Int.reduceEq,hw,hlz,hb,zAI,zAw])|refine gA ?_|(refine gD ?_ ?_<;>intro h<;>try exact aA h)|fail
    rw[←zAw (f:=AV.str),←zBG];exact bS (by simp only[wnames,hns];exact(zBV (l:=x::xs)).symm)
 case inr.inr.inr.inr.inl=>
  cases hns:bM path with
  |none=>
   simp only[gY,hns]at hpath;repeat' first|(refine gS ?_;simp only[go_sem,dS,Int.reduceEq])|refine gA ?_|(refine gD ?_ ?_<;>intro h<;>try exact aA h)|fail
   exact bS (l:=[]) (by simp only[wnames,hns])
  |some l=>
   simp only[gY,hns]at hpath;cases l with
   |nil=>
    repeat' first|(refine gS ?_;simp only[go_sem,dS,Int.reduceEq])|refine gA ?_|(refine gD ?_ ?_<;>intro h<;>try exact aA h)|fail
    exact bS (l:=[]) (by simp only[wnames,hns];rfl)
   |cons x xs=>
    have hl:=hn _ hns;rw[zAc]at hl;have hw:IntKind.i64.wrap (((xs.length+1:Nat):Int)-1)=(xs.length:Int):=by rw[wI];omega
    have hlz:decide ((0:Int)<((xs.length+1:Nat):Int))=true:=dT;have hb:((0:Int)≤(xs.length:Int)∧(xs.length:Int)≤((xs.length+1:Nat):Int))=True:=zAC (by omega)
    repeat' first|(refine gS ?_;simp only[go_sem,dS,Int.reduceEq,hw,hlz,hb,zAI,zAw])|refine gA ?_|(refine gD ?_ ?_<;>intro h<;>try exact aA h)|fail
    rw[←zAw (f:=AV.str),←zBG];exact bS (by simp only[wnames,hns];exact(zBV (l:=x::xs)).symm)
 case inr.inr.inr.inr.inr.inl=>
  cases hns:bM path with
  |none=>
   simp only[gY,hns]at hpath;repeat' first|(refine gS ?_;simp only[go_sem,dS,Int.reduceEq])|refine gA ?_|(refine gD ?_ ?_<;>intro h<;>try exact aA h)|fail
   exact bS (l:=[]) (by simp only[wnames,hns])
  |some l=>
   simp only[gY,hns]at hpath;cases l with
   |nil=>
    repeat' first|(refine gS ?_;simp only[go_sem,dS,Int.reduceEq])|refine gA ?_|(refine gD ?_ ?_<;>intro h<;>try exact aA h)|fail
    exact bS (l:=[]) (by simp only[wnames,hns];rfl)
   |cons x xs=>
    have hl:=hn _ hns;rw[zAc]at hl;have hw:IntKind.i64.wrap (((xs.length+1:Nat):Int)-1)=(xs.length:Int):=by rw[wI];omega
    have hlz:decide ((0:Int)<((xs.length+1:Nat):Int))=true:=dT;have hb:((0:Int)≤(xs.length:Int)∧(xs.length:Int)≤((xs.length+1:Nat):Int))=True:=zAC (by omega)
    repeat' first|(refine gS ?_;simp only[go_sem,dS,Int.reduceEq,hw,hlz,hb,zAI,zAw])|refine gA ?_|(refine gD ?_ ?_<;>intro h<;>try exact aA h)|fail
    exact bS (l:=x::xs) (by simp only[wnames,hns];rfl)
theorem aOl(c:Cal)(hp:c.path.length≤1048576)(H:AHeap):bH Tryz.prog 111 [dS c] H (.bool (walksK c)):=by
 refine fO Tryz.func111 ?_;have hw:=aG4 c hp;have hx:turnsK c=true→walksK c=false:=by simp only[turnsK,walksK];intro h;simp at h ⊢;omega
 unfold aEj at hw;cases ht:turnsK c with
 |true=>
  rw[ht,zAl rfl]at hw;rw[hx ht];repeat' first|(refine gS ?_;simp only[go_sem,dS])|refine gA ?_|(refine gD ?_ ?_<;>intro h<;>try exact aA h)|fail
  exact dY (.refl _)
 |false=>
  rw[ht,zAe (by simp)]at hw
  cases hk:walksK c with
  |true=>
   rw[hk,zAl rfl]at hw;repeat' first|(refine gS ?_;simp only[go_sem,dS])|refine gA ?_|(refine gD ?_ ?_<;>intro h<;>try exact aA h)|fail
   exact dY (.refl _)
  |false=>
   rw[hk,zAe (by simp)]at hw
   repeat' first|(refine gS ?_;simp only[go_sem,dS])|refine gA ?_|(refine gD ?_ ?_<;>intro h<;>try exact aA h)|fail
   exact dY (.refl _)
theorem aOm(c:Cal)(H:AHeap):bH Tryz.prog 65 [dS c] H (.sl true ((jD c).map AV.str)):=by
 refine fO Tryz.func65 ?_;unfold jD;by_cases h5:c.kind=5
 ·rw[zAl h5];have hd:decide (c.kind=5)=true:=zAj h5;repeat' first|(refine gS ?_;simp only[go_sem,dS,hd])|refine gA ?_|(refine gD ?_ ?_<;>intro h<;>try exact aA h)|fail
  exact dY (.refl _)
 ·rw[zAe h5];have hd:decide (c.kind=5)=false:=zAg h5;by_cases h6:c.kind=6
  ·rw[zAl h6];have hd':decide (c.kind=6)=true:=zAj h6;repeat' first|(refine gS ?_;simp only[go_sem,dS,hd,hd'])|refine gA ?_|(refine gD ?_ ?_<;>intro h<;>try exact aA h)|fail
   exact dY (.refl _)
  ·rw[zAe h6];have hd':decide (c.kind=6)=false:=zAg h6;repeat' first|(refine gS ?_;simp only[go_sem,dS,hd,hd'])|refine gA ?_|(refine gD ?_ ?_<;>intro h<;>try exact aA h)|fail
   exact dY (.refl _)
end
section
theorem aYZ(a b:Int)(d:Bool)(H:AHeap):bH Tryz.prog 152 [.agg [.int .i64 a,.int .i64 b],.bool d] H (.int .i64 (idI a b d)):=by
 refine fO Tryz.func152 ?_;have hc:=pQ a b;unfold idI;cases hk:okI a b with
 |false=>
  rw[hk]at hc;repeat' first|(refine gS ?_;simp only[go_sem])|refine gA ?_|(refine gD ?_ ?_<;>intro h<;>try exact aA h)|fail
  exact dY (.refl _)
 |true=>
  rw[hk]at hc;have h:=rG.1 hk;have w1:IntKind.i64.wrap (128 * a)=128 * a:=wI;have w2:IntKind.i64.wrap (2 * b)=2 * b:=wI;have w3:IntKind.i64.wrap (128 * a+2 * b)=128 * a+2 * b:=wI;have w4:IntKind.i64.wrap (128 * a+2 * b+1)=128 * a+2 * b+1:=wI;cases d with
  |true=>
   repeat' first|(refine gS ?_;simp only[go_sem,w1,w2,w3,w4])|refine gA ?_|(refine gD ?_ ?_<;>intro h<;>try exact aA h)|fail
   exact dY (.refl _)
  |false=>
   repeat' first|(refine gS ?_;simp only[go_sem,w1,w2,w3,w4])|refine gA ?_|(refine gD ?_ ?_<;>intro h<;>try exact aA h)|fail
   exact dY (.of (by simp))
def aKW(a b:Int):AV:=if oJ a b=true then .tup [.agg [.int .i64 (a+1),.int .i64 b],.int .i64 0]else .tup [.agg [.int .i64 0,.int .i64 0],.int .i64 20]
theorem aSn(a b:Int)(H:AHeap):bH Tryz.prog 186 [.int .i64 a,.int .i64 b] H (aKW a b):=by
 refine fO Tryz.func186 ?_;unfold aKW;by_cases h1:a<0
 ·have hn:oJ a b=false:=by rw[←zBB,rL];omega
  have d1:decide (a<0)=true:=zAj h1;rw[hn];repeat' first|(refine gS ?_;simp only[go_sem,d1])|refine gA ?_|(refine gD ?_ ?_<;>intro h<;>try exact aA h)|fail
  exact dY (.refl _)
 have d1:decide (a<0)=false:=zAg h1;by_cases h2:1048576≤a
 ·have hn:oJ a b=false:=by rw[←zBB,rL];omega
  have d2:decide (1048576≤a)=true:=zAj h2;rw[hn];repeat' first|(refine gS ?_;simp only[go_sem,d1,d2])|refine gA ?_|(refine gD ?_ ?_<;>intro h<;>try exact aA h)|fail
  exact dY (.refl _)
 have d2:decide (1048576≤a)=false:=zAg h2;have hw:IntKind.i64.wrap (a+1)=a+1:=wI;have hc:=pQ (a+1) b;cases hk:okI (a+1) b with
 |false=>
  have hn:oJ a b=false:=by rw[←zBB,rL];rw[←zBB,rG]at hk;omega
  rw[hk]at hc;rw[hn];repeat' first|(refine gS ?_;simp only[go_sem,d1,d2,hw])|refine gA ?_|(refine gD ?_ ?_<;>intro h<;>try exact aA h)|fail
  exact dY (.refl _)
 |true=>
  have hn:oJ a b=true:=by rw[rL];rw[rG]at hk;omega
  rw[hk]at hc;rw[hn];repeat' first|(refine gS ?_;simp only[go_sem,d1,d2,hw])|refine gA ?_|(refine gD ?_ ?_<;>intro h<;>try exact aA h)|fail
  exact dY (.refl _)
theorem aOn(n:Int)(s:Stm)(f:Bool)(H:AHeap):bH Tryz.prog 169 [.int .i64 n,.sl f [.agg [.int .i64 s.c,.int .i64 s.r]]] H (.int .i64 (kX n s)):=by
 refine fO Tryz.func169 ?_;obtain⟨a,b⟩:=s;have hw:IntKind.i64.wrap (0+1)=1:=rfl;repeat' first|(refine gS ?_;simp only[go_sem])|refine gA ?_|(refine gD ?_ ?_<;>intro h<;>try exact aA h)|fail
 refine fD 2 ?_;unfold fZ;repeat' first|(refine gS ?_;simp only[go_sem])|refine gA ?_|(refine gD ?_ ?_<;>intro h<;>try exact aA h)|fail
 have hc:=pQ a b;cases hk:okI a b with
 |false=>
  rw[hk]at hc;repeat' first|(refine gS ?_;simp only[go_sem,hw])|refine gA ?_|(refine gD ?_ ?_<;>intro h<;>try exact aA h)|fail
  exact dY (.of (by unfold kX;rw[hk];rfl))
 |true=>
  rw[hk]at hc;repeat' first|(refine gS ?_;simp only[go_sem,hw])|refine gA ?_|(refine gD ?_ ?_<;>intro h<;>try exact aA h)|fail
  exact dY (.of (by unfold kX;rw[hk];rfl))
end
end Go.Proofs.YtennnelammaapaaGreatDoor

/- What the functions of this seat answer (12 of 40). No condition. -/
import Derived.Test.YthafnbmdmfoobaaGreatDoorWorkAK
set_option linter.unusedSimpArgs false
set_option linter.unusedVariables false
set_option maxRecDepth 100000
set_option maxHeartbeats 16000000
namespace Go.Proofs.YthafnbmdmfoobaaGreatDoor
section
def A2(k:Int):Option Int:=if k=1∨k=2∨k=6∨k=10 then some 1 else if k=3 then some 5 else if k=4∨k=7 then some 9 else if k=5 then some 3 else if k=9∨k=11 then some 8 else if k=13 then some 4 else if k=8∨k=12 then some 0 else none
def vo(s:aM):Bool:=(gl s).isSome
def qa(p part:Int)(r e:Bool):Bool:=if qG .and .i64 p part=0 then e else r
def pG(c:b3):Bool:=match A2 c.kind with
 |none=>false
 |some p=>qa p 1 (vo c.path) (decide (c.path=[]))&&(qa p 2 (vo c.to) (decide (c.to=[]))&&(qa p 4 (decide ((c.data.length:Int)<=if c.kind=13 then 4000 else 64)) (decide (c.data=[]))&&qa p 8 (decide (0<=c.n)) (decide (c.n=0))))
theorem aEc(k:Int):k=1∨k=2∨k=6∨k=10∨k=3∨k=4∨k=7∨k=5∨k=9∨k=11∨k=13∨k=8∨k=12∨
  ((k=1)=False∧(k=2)=False∧(k=6)=False∧(k=10)=False∧(k=3)=False∧(k=4)=False∧(k=7)=False∧(k=5)=False∧(k=9)=False∧(k=11)=False∧(k=13)=False∧(k=8)=False∧(k=12)=False):=by
 simp only[eq_iff_iff,iff_false];omega
theorem aFO(k:Int)(H:ab):aY Tryz.prog 87 [.int .i64 k] H (.a0 [.int .i64 ((A2 k).getD 0),.bool (A2 k).isSome]):=by
 refine bh Tryz.func87 ?_;rcases aEc k with rfl|rfl|rfl|rfl|rfl|rfl|rfl|rfl|rfl|rfl|rfl|rfl|rfl|⟨h1,h2,h3,h4,cz,eK,lz,lW,E0,I0,EY,wu,uS⟩;iterate 13 focus ((repeat' first|(refine ad ?_;simp only[go_sem,Int.reduceEq])|refine bx ?_|(refine bD ?_ ?_<;>intro h<;>try exact bB h)|fail);exact bC (.refl _))
 have z:∀m:Int,(k=m)=False->decide (k=m)=false:=fun m h=>by simp[h]
 have jA:=z 1 h1;have la:=z 2 h2;have Qa:=z 6 h3;have K6:=z 10 h4;have aMh:=z 3 cz;have aMi:=z 4 eK;have aMj:=z 7 lz;have aMk:=z 5 lW;have aMl:=z 9 E0;have aMd:=z 11 I0;have aMe:=z 13 EY;have aMf:=z 8 wu;have aMg:=z 12 uS;repeat' first|(refine ad ?_;simp only[go_sem,jA,la,Qa,K6,aMh,aMi,aMj,aMk,aMl,aMd,aMe,aMf,aMg])|refine bx ?_|(refine bD ?_ ?_<;>intro h<;>try exact bB h)|fail
 exact bC (.of (by simp[A2,h1,h2,h3,h4,cz,eK,lz,lW,E0,I0,EY,wu,uS]))
theorem SK(s:aM)(hs:s.length<=1048576)(H:ab):aY Tryz.prog 89 [.str s] H (.bool (vo s)):=by
 refine bh Tryz.func89 ?_;have h:=DQ s hs;unfold kV at h;unfold vo;cases ag:gl s with
 |none=>
  simp only[ag]at h;repeat' first|(refine ad ?_;simp only[go_sem,Int.reduceEq])|refine bx ?_|(refine bD ?_ ?_<;>intro h<;>try exact bB h)|fail
  exact bC (.refl _)
 |some l=>
  simp only[ag]at h;repeat' first|(refine ad ?_;simp only[go_sem,Int.reduceEq])|refine bx ?_|(refine bD ?_ ?_<;>intro h<;>try exact bB h)|fail
  exact bC (.refl _)
theorem Hb(p part:Int)(r e:Bool)(i:Nat)(G:ab)(ah:ao G i=.cells 0 [.int .i64 p]):aY Tryz.prog 88 [.int .i64 part,.bool r,.bool e,.ref i 0 0] G (.bool (qa p part r e)):=by
 refine bh Tryz.func88 ?_;unfold qa;by_cases h:qG .and .i64 p part=0
 ·rw[aF h];have a2:decide (qG .and .i64 p part=0)=true:=cF h;repeat' first|(refine ad ?_;simp only[go_sem,ah,a2])|refine bx ?_|(refine bD ?_ ?_<;>intro h<;>try exact bB h)|fail
  exact bC (.refl _)
 ·rw[az h];have a2:decide (qG .and .i64 p part=0)=false:=b8 h;repeat' first|(refine ad ?_;simp only[go_sem,ah,a2])|refine bx ?_|(refine bD ?_ ?_<;>intro h<;>try exact bB h)|fail
  exact bC (.refl _)
theorem aBt(c:b3)(ae:c.path.length<=1048576)(aj:c.to.length<=1048576)(H:ab):aY Tryz.prog 59 [cJ c] H (.bool (pG c)):=by
 refine bh Tryz.func59 ?_;have ah:=aFO c.kind;have h1:=SK c.path ae;have h2:=SK c.to aj;unfold pG;cases hk:A2 c.kind with
 |none=>
  simp only[hk,Be,A8]at ah ⊢;repeat' first|(refine ad ?_;simp only[go_sem,cJ])|refine bx ?_|(refine bD ?_ ?_<;>intro h<;>try exact bB h)|fail
  exact bo (.refl _)
 |some p=>
  simp only[hk,oJ,xp]at ah ⊢;have f1:=Hb p 1 (vo c.path) (decide (c.path=[])) (H.length+1) (H++[.cells 0 [.int .i64 c.kind,.str c.path,.str c.to,.str c.data,.int .i64 c.n],.cells 0 [.int .i64 p]]) (by simp only[go_sem])
  have f2:=Hb p 2 (vo c.to) (decide (c.to=[])) (H.length+1) (H++[.cells 0 [.int .i64 c.kind,.str c.path,.str c.to,.str c.data,.int .i64 c.n],.cells 0 [.int .i64 p]]) (by simp only[go_sem])
  have f4:=Hb p 8 (decide (0<=c.n)) (decide (c.n=0)) (H.length+1) (H++[.cells 0 [.int .i64 c.kind,.str c.path,.str c.to,.str c.data,.int .i64 c.n],.cells 0 [.int .i64 p]]) (by simp only[go_sem])
  by_cases uS:c.kind=13
  ·have hd:decide (c.kind=13)=true:=cF uS;rw[aF uS];have f3:=Hb p 4 (decide ((c.data.length:Int)<=4000)) (decide (c.data=[])) (H.length+1) (H++[.cells 0 [.int .i64 c.kind,.str c.path,.str c.to,.str c.data,.int .i64 c.n],.cells 0 [.int .i64 p]]) (by simp only[go_sem])
   generalize qa p 1 (vo c.path) (decide (c.path=[]))=fr at *;generalize qa p 2 (vo c.to) (decide (c.to=[]))=dZ at *;generalize qa p 4 (decide ((c.data.length:Int)<=4000)) (decide (c.data=[]))=gh at *;generalize qa p 8 (decide (0<=c.n)) (decide (c.n=0))=vx at *;cases fr<;>cases dZ<;>cases gh;all_goals(repeat' first|((first|refine lp (f1) (aA) ?_|refine lq (fun _=>f1) (aA) ?_|refine lr (fun _=>f1) (aA) ?_|refine lp (f2) (aA) ?_|refine lq (fun _=>f2) (aA) ?_|refine lr (fun _=>f2) (aA) ?_|refine lp (f3) (aA) ?_|refine lq (fun _=>f3) (aA) ?_|refine lr (fun _=>f3) (aA) ?_|refine lp (f4) (aA) ?_|refine lq (fun _=>f4) (aA) ?_|refine lr (fun _=>f4) (aA) ?_|refine ad ?_);simp only[go_sem,cJ,hd])|refine bx ?_|(refine bD ?_ ?_<;>intro h<;>try exact bB h)|fail)
   all_goals exact bo (.refl _)
  ·have hd:decide (c.kind=13)=false:=b8 uS;rw[az uS];have f3:=Hb p 4 (decide ((c.data.length:Int)<=64)) (decide (c.data=[])) (H.length+1) (H++[.cells 0 [.int .i64 c.kind,.str c.path,.str c.to,.str c.data,.int .i64 c.n],.cells 0 [.int .i64 p]]) (by simp only[go_sem])
   generalize qa p 1 (vo c.path) (decide (c.path=[]))=fr at *;generalize qa p 2 (vo c.to) (decide (c.to=[]))=dZ at *;generalize qa p 4 (decide ((c.data.length:Int)<=64)) (decide (c.data=[]))=gh at *;generalize qa p 8 (decide (0<=c.n)) (decide (c.n=0))=vx at *;cases fr<;>cases dZ<;>cases gh;all_goals(repeat' first|((first|refine lp (f1) (aA) ?_|refine lq (fun _=>f1) (aA) ?_|refine lr (fun _=>f1) (aA) ?_|refine lp (f2) (aA) ?_|refine lq (fun _=>f2) (aA) ?_|refine lr (fun _=>f2) (aA) ?_|refine lp (f3) (aA) ?_|refine lq (fun _=>f3) (aA) ?_|refine lr (fun _=>f3) (aA) ?_|refine lp (f4) (aA) ?_|refine lq (fun _=>f4) (aA) ?_|refine lr (fun _=>f4) (aA) ?_|refine ad ?_);simp only[go_sem,cJ,hd])|refine bx ?_|(refine bD ?_ ?_<;>intro h<;>try exact bB h)|fail)
   all_goals exact bo (.refl _)
end
section
theorem aBu{a b:I}(h:fY a b):∀(i:Nat) (x y:I),[a][i]?=some x->[b][i]?=some y->fY x y:=dh h mF
def zv(c:b3):I:=if fC c=true then .iface 174 (cJ c)else if gR c=true then .iface 172 (.agg [.sl false ((hr c).map I.str)])else .iface 168 (.agg [])
theorem aEd(l:List aM):∀e∈l.map I.str,bO e:=fun e he=>by
 obtain⟨x,_,rfl⟩:=bP.1 he;exact .str _
theorem nu{n:Nat}{H L:ab}{f:Bool}{l m:List aM}(e:l=m):∃gk y,H++L=H++gk∧cQ n (H++L) (.iface 172 (.agg [.sl f (l.map I.str)])) y∧y=.iface 172 (.agg [.sl false (m.map I.str)]):=by
 subst e;exact done (.iface _ _ (.agg _ (by simp only[dA,forall_eq];exact .sl _ _ (aEd l)))) (.iface _ _ _ (.agg _ _ rfl (aBu (.sl _ _))))
theorem Zr(k:Int):k=4∨k=7∨k=1∨k=2∨k=3∨k=10∨k=5∨k=6∨k=13∨((k=4)=False∧(k=7)=False∧(k=1)=False∧(k=2)=False∧(k=3)=False∧(k=10)=False∧(k=5)=False∧(k=6)=False∧(k=13)=False):=by
 simp only[eq_iff_iff,iff_false];omega
theorem MV(c:b3)(ae:c.path.length<=1048576)(H:ab):aY Tryz.prog 49 [cJ c] H (zv c):=by
 refine bh Tryz.func49 ?_;obtain⟨k,path,to,data,n⟩:=c;simp only at ae;have o6:=DQ path ae;have ag:(∀l,gl path=some l->l.length<=16):=fun l hl=>F5 hl
 rcases Zr k with rfl|rfl|rfl|rfl|rfl|rfl|rfl|rfl|rfl|⟨ar,au,bd,bE,cE,h8,ny,sh,IS⟩;case inr.inr.inr.inr.inr.inr.inl=>
  repeat' first|(refine ad ?_;simp only[go_sem,cJ,Int.reduceEq])|refine af ?_|fail
  exact bo (.refl _)
 case inr.inr.inr.inr.inr.inr.inr.inl=>
  repeat' first|(refine ad ?_;simp only[go_sem,cJ,Int.reduceEq])|refine af ?_|fail
  exact bo (.refl _)
 case inr.inr.inr.inr.inr.inr.inr.inr.inl=>
  repeat' first|(refine ad ?_;simp only[go_sem,cJ,Int.reduceEq])|refine af ?_|fail
  exact bo (.refl _)
 case inr.inr.inr.inr.inr.inr.inr.inr.inr=>
  repeat' first|(refine ad ?_;simp only[go_sem,cJ,ar,au,bd,bE,cE,h8,ny,sh,IS])|refine af ?_|fail
  exact bo (.of (by simp only[zv,fC,gR,ar,au,bd,bE,cE,h8,ny,sh,IS];rfl))
 case inl=>
  by_cases aC:n=0
  ·subst aC;cases eD:gl path with
   |none=>
    simp only[kV,eD]at o6;repeat' first|(refine ad ?_;simp only[go_sem,cJ,Int.reduceEq])|refine af ?_|fail
    exact nu (l:=[]) (by simp only[hr,eD])
   |some l=>
    simp only[kV,eD]at o6;cases l with
    |nil=>
     repeat' first|(refine ad ?_;simp only[go_sem,cJ,Int.reduceEq])|refine af ?_|fail
     exact nu (l:=[]) (by simp only[hr,eD];rfl)
    |cons x xs=>
     have hl:=ag _ eD;rw[cm]at hl;have hw:IntKind.i64.wrap (((xs.length+1:Nat):Int)-1)=(xs.length:Int):=by rw[cB];omega
     have m7:decide ((0:Int)<((xs.length+1:Nat):Int))=true:=b1;have aa:((0:Int)<=(xs.length:Int)∧(xs.length:Int)<=((xs.length+1:Nat):Int))=True:=bJ (by omega)
     repeat' first|(refine ad ?_;simp only[go_sem,cJ,Int.reduceEq,hw,m7,aa,j6,dn])|refine af ?_|fail
     rw[<-dn (f:=I.str),<-rX];exact nu (by simp only[hr,eD];exact(DE (l:=x::xs)).symm)
  ·have dP:(n=0)=False:=uy aC;repeat' first|(refine ad ?_;simp only[go_sem,cJ,Int.reduceEq,dP])|refine af ?_|fail
   exact bo (.of (by simp only[zv,fC,gR,dP];rfl))
 case inr.inl=>
  by_cases aC:n=0
  ·subst aC;cases eD:gl path with
   |none=>
    simp only[kV,eD]at o6;repeat' first|(refine ad ?_;simp only[go_sem,cJ,Int.reduceEq])|refine af ?_|fail
    exact nu (l:=[]) (by simp only[hr,eD])
   |some l=>
    simp only[kV,eD]at o6;cases l with
    |nil=>
     repeat' first|(refine ad ?_;simp only[go_sem,cJ,Int.reduceEq])|refine af ?_|fail
     exact nu (l:=[]) (by simp only[hr,eD];rfl)
    |cons x xs=>
     have hl:=ag _ eD;rw[cm]at hl;have hw:IntKind.i64.wrap (((xs.length+1:Nat):Int)-1)=(xs.length:Int):=by rw[cB];omega
     have m7:decide ((0:Int)<((xs.length+1:Nat):Int))=true:=b1;have aa:((0:Int)<=(xs.length:Int)∧(xs.length:Int)<=((xs.length+1:Nat):Int))=True:=bJ (by omega)
     repeat' first|(refine ad ?_;simp only[go_sem,cJ,Int.reduceEq,hw,m7,aa,j6,dn])|refine af ?_|fail
     exact nu (l:=x::xs) (by simp only[hr,eD];rfl)
  ·have dP:(n=0)=False:=uy aC;repeat' first|(refine ad ?_;simp only[go_sem,cJ,Int.reduceEq,dP])|refine af ?_|fail
   exact bo (.of (by simp only[zv,fC,gR,dP];rfl))
 case inr.inr.inl=>
  cases eD:gl path with
  |none=>
   simp only[kV,eD]at o6;repeat' first|(refine ad ?_;simp only[go_sem,cJ,Int.reduceEq])|refine af ?_|fail
   exact nu (l:=[]) (by simp only[hr,eD])
  |some l=>
   simp only[kV,eD]at o6;cases l with
   |nil=>
    repeat' first|(refine ad ?_;simp only[go_sem,cJ,Int.reduceEq])|refine af ?_|fail
    exact nu (l:=[]) (by simp only[hr,eD];rfl)
   |cons x xs=>
    have hl:=ag _ eD;rw[cm]at hl;have hw:IntKind.i64.wrap (((xs.length+1:Nat):Int)-1)=(xs.length:Int):=by rw[cB];omega
    have m7:decide ((0:Int)<((xs.length+1:Nat):Int))=true:=b1;have aa:((0:Int)<=(xs.length:Int)∧(xs.length:Int)<=((xs.length+1:Nat):Int))=True:=bJ (by omega)
    repeat' first|(refine ad ?_;simp only[go_sem,cJ,Int.reduceEq,hw,m7,aa,j6,dn])|refine af ?_|fail
    rw[<-dn (f:=I.str),<-rX];exact nu (by simp only[hr,eD];exact(DE (l:=x::xs)).symm)
 case inr.inr.inr.inl=>
  cases eD:gl path with
  |none=>
   simp only[kV,eD]at o6;repeat' first|(refine ad ?_;simp only[go_sem,cJ,Int.reduceEq])|refine af ?_|fail
   exact nu (l:=[]) (by simp only[hr,eD])
  |some l=>
   simp only[kV,eD]at o6;cases l with
   |nil=>
    repeat' first|(refine ad ?_;simp only[go_sem,cJ,Int.reduceEq])|refine af ?_|fail
    exact nu (l:=[]) (by simp only[hr,eD];rfl)
   |cons x xs=>
    have hl:=ag _ eD;rw[cm]at hl;have hw:IntKind.i64.wrap (((xs.length+1:Nat):Int)-1)=(xs.length:Int):=by rw[cB];omega
    have m7:decide ((0:Int)<((xs.length+1:Nat):Int))=true:=b1;have aa:((0:Int)<=(xs.length:Int)∧(xs.length:Int)<=((xs.length+1:Nat):Int))=True:=bJ (by omega)
    repeat' first|(refine ad ?_;simp only[go_sem,cJ,Int.reduceEq,hw,m7,aa,j6,dn])|refine af ?_|fail
    rw[<-dn (f:=I.str),<-rX];exact nu (by simp only[hr,eD];exact(DE (l:=x::xs)).symm)
 case inr.inr.inr.inr.inl=>
  cases eD:gl path with
  |none=>
   simp only[kV,eD]at o6;repeat' first|(refine ad ?_;simp only[go_sem,cJ,Int.reduceEq])|refine af ?_|fail
   exact nu (l:=[]) (by simp only[hr,eD])
  |some l=>
   simp only[kV,eD]at o6;cases l with
   |nil=>
    repeat' first|(refine ad ?_;simp only[go_sem,cJ,Int.reduceEq])|refine af ?_|fail
    exact nu (l:=[]) (by simp only[hr,eD];rfl)
   |cons x xs=>
    have hl:=ag _ eD;rw[cm]at hl;have hw:IntKind.i64.wrap (((xs.length+1:Nat):Int)-1)=(xs.length:Int):=by rw[cB];omega
    have m7:decide ((0:Int)<((xs.length+1:Nat):Int))=true:=b1;have aa:((0:Int)<=(xs.length:Int)∧(xs.length:Int)<=((xs.length+1:Nat):Int))=True:=bJ (by omega)
    repeat' first|(refine ad ?_;simp only[go_sem,cJ,Int.reduceEq,hw,m7,aa,j6,dn])|refine af ?_|fail
    rw[<-dn (f:=I.str),<-rX];exact nu (by simp only[hr,eD];exact(DE (l:=x::xs)).symm)
 case inr.inr.inr.inr.inr.inl=>
  cases eD:gl path with
  |none=>
   simp only[kV,eD]at o6;repeat' first|(refine ad ?_;simp only[go_sem,cJ,Int.reduceEq])|refine af ?_|fail
   exact nu (l:=[]) (by simp only[hr,eD])
  |some l=>
   simp only[kV,eD]at o6;cases l with
   |nil=>
    repeat' first|(refine ad ?_;simp only[go_sem,cJ,Int.reduceEq])|refine af ?_|fail
    exact nu (l:=[]) (by simp only[hr,eD];rfl)
   |cons x xs=>
    have hl:=ag _ eD;rw[cm]at hl;have hw:IntKind.i64.wrap (((xs.length+1:Nat):Int)-1)=(xs.length:Int):=by rw[cB];omega
    have m7:decide ((0:Int)<((xs.length+1:Nat):Int))=true:=b1;have aa:((0:Int)<=(xs.length:Int)∧(xs.length:Int)<=((xs.length+1:Nat):Int))=True:=bJ (by omega)
    repeat' first|(refine ad ?_;simp only[go_sem,cJ,Int.reduceEq,hw,m7,aa,j6,dn])|refine af ?_|fail
    exact nu (l:=x::xs) (by simp only[hr,eD];rfl)
theorem aEe(c:b3)(ae:c.path.length<=1048576)(H:ab):aY Tryz.prog 160 [cJ c] H (.bool (gR c)):=by
 refine bh Tryz.func160 ?_;have hw:=MV c ae;have J:fC c=true->gR c=false:=by simp only[fC,gR];intro h;simp at h ⊢;omega
 unfold zv at hw;cases aj:fC c with
 |true=>
  rw[aj,aF rfl]at hw;rw[J aj];repeat' first|(refine ad ?_;simp only[go_sem,cJ])|refine af ?_|fail
  exact bo (.refl _)
 |false=>
  rw[aj,az (by simp)]at hw
  cases hk:gR c with
  |true=>
   rw[hk,aF rfl]at hw;repeat' first|(refine ad ?_;simp only[go_sem,cJ])|refine af ?_|fail
   exact bo (.refl _)
  |false=>
   rw[hk,az (by simp)]at hw
   repeat' first|(refine ad ?_;simp only[go_sem,cJ])|refine af ?_|fail
   exact bo (.refl _)
theorem aDs(c:b3)(H:ab):aY Tryz.prog 276 [cJ c] H (.sl true ((mN c).map I.str)):=by
 refine bh Tryz.func276 ?_;unfold mN;by_cases cz:c.kind=5
 ·rw[aF cz];have hd:decide (c.kind=5)=true:=cF cz;repeat' first|(refine ad ?_;simp only[go_sem,cJ,hd])|refine af ?_|fail
  exact bo (.refl _)
 ·rw[az cz];have hd:decide (c.kind=5)=false:=b8 cz;by_cases eK:c.kind=6
  ·rw[aF eK];have hn:decide (c.kind=6)=true:=cF eK;repeat' first|(refine ad ?_;simp only[go_sem,cJ,hd,hn])|refine af ?_|fail
   exact bo (.refl _)
  ·rw[az eK];have hn:decide (c.kind=6)=false:=b8 eK;repeat' first|(refine ad ?_;simp only[go_sem,cJ,hd,hn])|refine af ?_|fail
   exact bo (.refl _)
end
end Go.Proofs.YthafnbmdmfoobaaGreatDoor

/- What the functions of this seat answer (16 of 40). No condition. -/
import Derived.Test.YtigedpfipifefaaGreatDoorWorkAM
import Derived.Test.YtigedpfipifefaaGreatDoorWorkAN
set_option linter.unusedSimpArgs false
set_option linter.unusedVariables false
set_option linter.unusedSectionVars false
set_option maxRecDepth 100000
set_option maxHeartbeats 16000000
namespace Go.Proofs.YtigedpfipifefaaGreatDoor
section
def fY(n:Nat):Txt:=if n=0 then[]else fY (n / 128)++[UInt8.ofNat (n % 128+128)]
termination_by n
decreasing_by omega
def aV(n:Nat):Txt:=fY (n / 128)++[UInt8.ofNat (n % 128)]
def bW(t:Txt):Txt:=aV t.length++t
theorem xS{n:Nat}(h:n<256):(UInt8.ofNat n).toNat=n:=by rw[UInt8.toNat_ofNat'];exact zBm h
theorem aBV(m:Nat):∀(_:m≤72057594037927935) (y:Txt),fP 0 true (fY m++y)=if m=0 then fP 0 true y else fP m false y:=by
 induction m using Nat.strongRecOn with
 |ind m ih=>
  intro hm y;unfold fY;by_cases h0:m=0
  ·rw[zAp h0,zAp h0];rfl
  ·rw[zAk h0,zAk h0,zAe,ih (m / 128) (by omega) (by omega),List.singleton_append]
   have hx:=xS (n:=m % 128+128) (by omega)
   by_cases h1:m / 128=0
   ·rw[zAp h1,fP,hx,zAk (by simp;omega),zAk (by omega),show(0:Int) * 128+(((m % 128+128:Nat):Int)-128)=(m:Int) by omega]
   ·rw[zAk h1,fP,hx,zAk (by simp;omega),zAk (by omega),show((m / 128:Nat):Int) * 128+(((m % 128+128:Nat):Int)-128)=(m:Int) by omega]
theorem cT(n:Nat)(hn:n≤9223372036854775807)(y:Txt):bK (aV n++y)=some ((n:Int),y):=by
 unfold bK aV;rw[zAe,aBV _ (by omega),List.singleton_append]
 have hx:=xS (n:=n % 128) (by omega)
 by_cases h1:n / 128=0
 ·rw[zAp h1,fP,hx,zAk (by simp;omega),zAp (by omega),show(0:Int) * 128+((n % 128:Nat):Int)=(n:Int) by omega]
 ·rw[zAk h1,fP,hx,zAk (by simp;omega),zAp (by omega),show((n / 128:Nat):Int) * 128+((n % 128:Nat):Int)=(n:Int) by omega]
theorem aDW(n:Nat)(y:Txt):aV n++y≠[]:=by unfold aV;simp
theorem tU(t y:Txt)(h:t.length≤9223372036854775807):eZ (bW t++y)=some (t,y):=by
 unfold eZ bW;rw[zAe,cT _ h];simp only[zAa];rw[zAk (by omega),Int.toNat_natCast,List.take_left,List.drop_left]
def gL(p part:Int)(r:Txt):Option (Txt×Txt):=if aY .and .i64 p part=0 then some ([],r)else eZ r
def pM(p:Int)(r:Txt):Option (Int×Txt):=if aY .and .i64 p 8=0 then some (0,r)else bK r
def dP(b:Txt):Option (Cal×Txt):=
 (bK b).bind fun(k,r0)=>(eR k).bind fun p=>(gL p 1 r0).bind fun(a,r1)=>(gL p 2 r1).bind fun(t,r2)=>(gL p 4 r2).bind fun(d,r3)=>(pM p r3).bind fun(n,r4)=>
  if chkC ⟨k,a,t,d,n⟩=true then some (⟨k,a,t,d,n⟩,r4)else none
def kZ(p part:Int)(t:Txt):Txt:=if aY .and .i64 p part=0 then[]else bW t
def iE(p n:Int):Txt:=if aY .and .i64 p 8=0 then[]else aV n.toNat
def pN(c:Cal):Txt:=match eR c.kind with
 |none=>[]
 |some p=>aV c.kind.toNat++(kZ p 1 c.path++(kZ p 2 c.to++(kZ p 4 c.data++iE p c.n)))
structure CM (c:Cal):Prop where
 path:c.path.length≤9223372036854775807
 to:c.to.length≤9223372036854775807
 data:c.data.length≤9223372036854775807
 n:c.n≤9223372036854775807
theorem vJ{p part:Int}{t y:Txt}{r:Bool}(hf:jJ p part r (decide (t=[]))=true)(h:t.length≤9223372036854775807):gL p part (kZ p part t++y)=some (t,y):=by
 unfold gL kZ;unfold jJ at hf;split
 ·rename_i h0;rw[zAp h0]at hf;rw[zAB hf];rfl
 ·exact tU t y h
theorem aDX{p n:Int}{y:Txt}(hf:jJ p 8 (decide (0≤n)) (decide (n=0))=true)(h:n≤9223372036854775807):pM p (iE p n++y)=some (n,y):=by
 unfold pM iE;unfold jJ at hf;split
 ·rename_i h0;rw[zAp h0]at hf;rw[zAB hf];rfl
 ·rename_i h0;rw[zAk h0]at hf;have h0:=zAB hf;rw[cT _ (by omega),zBH h0]
theorem lJ{k p:Int}(h:eR k=some p):1≤k∧k≤13:=by
 unfold eR at h
 (repeat' split at h)<;>first|omega|cases h
theorem aDY{c:Cal}(hm:CM c)(h:chkC c=true)(y:Txt):dP (pN c++y)=some (c,y):=by
 have h':=h;unfold chkC at h';unfold dP pN;cases hp:eR c.kind with
 |none=>rw[hp]at h';cases h'
 |some p=>
  rw[hp]at h';simp only[zAc]at h';obtain⟨f1,f2,f3,f4⟩:=h';obtain⟨k1,k2⟩:=lJ hp;simp only[zAe];rw[cT _ (by omega),zBH (by omega)]
  simp only[zAn];rw[hp];simp only[zAn];rw[vJ f1 hm.path];simp only[zAn];rw[vJ f2 hm.to];simp only[zAn];rw[vJ f3 hm.data];simp only[zAn];rw[aDX f4 hm.n];simp only[zAn];rw[zAp h]
theorem jK{b r:Txt}{n:Int}(h:bK b=some (n,r)):0≤n∧n≤9223372036854775807:=tT _ _ _ _ _ (Int.le_refl 0) h
theorem oK{b t r:Txt}(h:eZ b=some (t,r)):t.length+r.length≤b.length∧r.length<b.length:=by
 unfold eZ at h;split at h
 ·cases h
 ·rename_i n r' hv;have:=bR hv;split at h
  ·cases h
  ·cases h;simp only[zAX,zBa];omega
theorem eC{p part:Int}{b t r:Txt}(h:gL p part b=some (t,r)):t.length+r.length≤b.length:=by
 unfold gL at h;split at h
 ·cases h;simp
 ·exact(oK h).1
theorem aBW{b r:Txt}{c:Cal}(h:dP b=some (c,r))(hb:b.length≤9223372036854775807):r.length<b.length∧CM c∧chkC c=true:=by
 unfold dP at h;simp only[zAQ,zBc]at h;obtain⟨k,r0,h0,p,hp,a,r1,h1,t,r2,h2,d,r3,h3,n,r4,h4,h5⟩:=h;have e0:=bR h0;have e1:=eC h1;have e2:=eC h2;have e3:=eC h3;have e4:r4.length≤r3.length∧n≤9223372036854775807:=by
  unfold pM at h4;split at h4
  ·cases h4;exact⟨zAb _,by decide⟩
  ·exact⟨Nat.le_of_lt (bR h4),(jK h4).2⟩
 split at h5
 ·rename_i hc;cases h5;exact⟨by omega,⟨by simp only;omega,by simp only;omega,by simp only;omega,e4.2⟩,hc⟩
 ·cases h5
structure Ord where
 kind:Int
 call:Cal
 pick:Int
 picks:Txt
deriving DecidableEq,Inhabited
def eH(o:Ord):AV:=.agg [.int .i64 o.kind,.int .i64 o.call.kind,.str o.call.path,.str o.call.to,.str o.call.data,.int .i64 o.call.n,.int .i64 o.pick,.str o.picks]
@[go_sem] theorem aOD(x:Ord):Pur (eH x)=True:=by simp only[eH,go_sem]
def bZ(o:Ord):Bool:=
 if o.kind=1 then chkC o.call&&(decide (o.pick=0)&&decide (o.picks=[]))
 else if o.kind=2 then decide (0≤o.pick)&&(decide (o.call=gR)&&decide (o.picks=[]))
 else if o.kind=3 then decide (o.call=gR)&&(decide (o.pick=0)&&decide (o.picks=[]))
 else if o.kind=4 then decide ((o.picks.length:Int)≤300)&&(decide (o.call=gR)&&decide (o.pick=0))
 else false
def nK(o:Ord):Txt:=aV o.kind.toNat++if o.kind=1 then pN o.call else if o.kind=2 then aV o.pick.toNat else if o.kind=4 then bW o.picks else[]
def eM(b:Txt):Option (Ord×Txt):=(bK b).bind fun(k,r)=>
 (if k=1 then(dP r).map fun x=>((⟨k,x.1,0,[]⟩:Ord),x.2)else if k=2 then(bK r).map fun x=>(⟨k,gR,x.1,[]⟩,x.2)else if k=4 then(eZ r).map fun x=>(⟨k,gR,0,x.1⟩,x.2)else some (⟨k,gR,0,[]⟩,r)).bind fun x=>
  if bZ x.1=true then some x else none
structure OM (o:Ord):Prop where
 call:CM o.call
 pick:o.pick≤9223372036854775807
 picks:o.picks.length≤9223372036854775807
theorem vK(o:Ord)(y:Txt):nK o++y≠[]:=by unfold nK;rw[zAe];exact aDW _ _
theorem rQ{o:Ord}(hm:OM o)(h:bZ o=true)(y:Txt):eM (nK o++y)=some (o,y):=by
 obtain⟨k,c,p,s⟩:=o;obtain⟨m1,m2,m3⟩:=hm;have h':=h;unfold bZ at h';unfold eM nK;simp only at h' m1 m2 m3 ⊢;by_cases k1:k=1
 ·subst k1;rw[zAp rfl]at h';simp only[zAc,zAz]at h';obtain⟨q1,rfl,rfl⟩:=h';rw[zAe,cT _ (by decide)]
  simp only[zAn,Int.toNat_one,Int.natCast_one,zAp,zBy];rw[aDY m1 q1];simp only[zBL,zAn];exact zAp h
 rw[zAk k1]at h';by_cases k2:k=2
 ·subst k2;rw[zAp rfl]at h';simp only[zAc,zAz]at h';obtain⟨q1,rfl,rfl⟩:=h';rw[zAe,cT _ (by decide)]
  have e2:(((2:Int).toNat:Nat):Int)=2:=rfl;simp only[zAn,e2,Int.reduceEq,reduceIte];rw[cT _ (by omega),zBH q1]
  simp only[zBL,zAn];exact zAp h
 rw[zAk k2]at h';by_cases k3:k=3
 ·subst k3;rw[zAp rfl]at h';simp only[zAc,zAz]at h';obtain⟨rfl,rfl,rfl⟩:=h';rw[zAe,cT _ (by decide)]
  have e2:(((3:Int).toNat:Nat):Int)=3:=rfl;simp only[zAn,e2,Int.reduceEq,reduceIte,zAJ];exact zAp h
 rw[zAk k3]at h';by_cases k4:k=4
 ·subst k4;rw[zAp rfl]at h';simp only[zAc,zAz]at h';obtain⟨q1,rfl,rfl⟩:=h';rw[zAe,cT _ (by decide)]
  have e2:(((4:Int).toNat:Nat):Int)=4:=rfl;simp only[zAn,e2,Int.reduceEq,reduceIte];rw[tU _ _ m3];simp only[zBL,zAn];exact zAp h
 rw[zAk k4]at h';cases h'
theorem cm0:CM gR:=⟨by decide,by decide,by decide,by decide⟩
theorem gX{b r:Txt}{o:Ord}(h:eM b=some (o,r))(hb:b.length≤9223372036854775807):r.length<b.length∧OM o∧bZ o=true:=by
 unfold eM at h;simp only[zAQ,zBc]at h;obtain⟨k,r0,h0,o',r',h1,h2⟩:=h;have e0:=bR h0;split at h2
 ·rename_i hc;cases h2;refine⟨?_,?_,hc⟩;all_goals
   by_cases k1:k=1
   ·rw[zAp k1]at h1;simp only[zAy,zBc,zBE]at h1;obtain⟨x,r1,h3,rfl,rfl⟩:=h1;obtain⟨a1,a2,a3⟩:=aBW h3 (by omega)
    first|omega|exact⟨a2,by show(0:Int)≤_;decide,zAv _⟩
   rw[zAk k1]at h1;by_cases k2:k=2
   ·rw[zAp k2]at h1;simp only[zAy,zBc,zBE]at h1;obtain⟨x,r1,h3,rfl,rfl⟩:=h1;have a1:=bR h3;have a2:=jK h3;first|omega|exact⟨cm0,a2.2,zAv _⟩
   rw[zAk k2]at h1;by_cases k4:k=4
   ·rw[zAp k4]at h1;simp only[zAy,zBc,zBE]at h1;obtain⟨x,r1,h3,rfl,rfl⟩:=h1;have a1:=oK h3;first|omega|exact⟨cm0,by show(0:Int)≤_;decide,by show x.length≤_;omega⟩
   rw[zAk k4]at h1;cases h1;first|omega|exact⟨cm0,by show(0:Int)≤_;decide,zAv _⟩
 ·cases h2
def eI:Nat→Txt→Option (List Ord)
 |0,b=>if b=[]then some []else none
 |k+1,b=>if b=[]then some []else(eM b).bind fun x=>(eI k x.2).map (x.1::·)
def iJ(l:List Ord):Txt:=l.flatMap nK
def eD(rep size:Int)(l:List Ord):Option Txt:=
 if(decide (0≤rep)&&(decide (rep≤63)&&(decide (0≤size)&&(decide (size≤1000)&&l.all bZ))))=true then some (aV rep.toNat++(aV size.toNat++iJ l))else none
def cW(b:Txt):Option (Int×Int×List Ord):=
 (bK b).bind fun x=>(bK x.2).bind fun y=>(eI y.2.length y.2).bind fun l=>if eD x.1 y.1 l=some b then some (x.1,y.1,l)else none
theorem gY(o:Ord)(l:List Ord):iJ (o::l)=nK o++iJ l:=rfl
theorem aDZ(l:List Ord):l.length≤(iJ l).length:=by
 induction l with
 |nil=>exact zAb _
 |cons o l ih=>
  have:=zAR.2 (vK o []);rw[zAj]at this;rw[gY,zAa,zAt];omega
theorem tV:∀(l:List Ord) (k:Nat),(∀o∈l,OM o)→l.all bZ=true→l.length≤k→eI k (iJ l)=some l
 |[],k,_,_,_=>by cases k<;>rfl
 |o::l,0,_,_,h=>by simp at h
 |o::l,k+1,hm,hc,h=>by
  rw[List.all_cons,zAc]at hc;rw[eI,gY,zAk (vK _ _),rQ (hm o (by simp)) hc.1]
  simp only[zAn];rw[tV l k (fun o h=>hm o (by simp[h])) hc.2 (by simpa using h)]
  rfl
theorem xT:∀(k:Nat) (b:Txt) (l:List Ord),b.length≤9223372036854775807→eI k b=some l→(∀o∈l,OM o)∧l.all bZ=true
 |0,b,l,_,h=>by
  rw[eI]at h;split at h
  ·cases h;exact⟨fun o ho=>(by cases ho),rfl⟩
  ·cases h
 |k+1,b,l,hb,h=>by
  rw[eI]at h;split at h
  ·cases h;exact⟨fun o ho=>(by cases ho),rfl⟩
  ·simp only[zAQ,zAy,zBc]at h;obtain⟨o,r,h1,m,h2,rfl⟩:=h;obtain⟨e1,e2,e3⟩:=gX h1 hb;obtain⟨i1,i2⟩:=xT k r m (by omega) h2
   refine⟨fun x hx=>?_,by rw[List.all_cons,e3,i2];rfl⟩
   rcases zAC.1 hx with rfl|hx
   ·exact e2
   ·exact i1 x hx
theorem jL{rep size:Int}{l:List Ord}{w:Txt}(h:eD rep size l=some w):0≤rep∧rep≤63∧0≤size∧size≤1000∧l.all bZ=true∧w=aV rep.toNat++(aV size.toNat++iJ l):=by
 unfold eD at h;split at h
 ·rename_i hc;simp only[zAc,zAz]at hc;exact⟨hc.1,hc.2.1,hc.2.2.1,hc.2.2.2.1,hc.2.2.2.2,(zBh h).symm⟩
 ·cases h
theorem aAj{rep size:Int}{l:List Ord}{w:Txt}(hm:∀o∈l,OM o)(h:eD rep size l=some w):cW w=some (rep,size,l):=by
 obtain⟨r0,r1,s0,s1,hc,e⟩:=jL h;unfold cW;rw[e]at h ⊢;rw[cT _ (by omega)]
 simp only[zAn];rw[cT _ (by omega)]
 simp only[zAn];rw[tV l _ hm hc (aDZ l),zBH r0,zBH s0];simp only[zAn];exact zAp h
theorem xU{b:Txt}{r s:Int}{l:List Ord}(hb:b.length≤9223372036854775807)(h:cW b=some (r,s,l)):eD r s l=some b∧∀o∈l,OM o:=by
 unfold cW at h;simp only[zAQ,zBc]at h;obtain⟨x,r0,h0,y,r1,h1,m,h2,h3⟩:=h;split at h3
 ·rename_i hw;cases h3;have e0:=bR h0;have e1:=bR h1;exact⟨hw,(xT _ _ _ (by omega) h2).1⟩
 ·cases h3
theorem aMO:∀(m l:List Ord) (y:Txt),(∀o∈m,OM o)→(∀o∈l,OM o)→m.all bZ=true→l.all bZ=true→y≠[]→iJ m++y=iJ l→m.length<l.length∧m=l.take m.length
 |[],l,y,_,_,_,_,hy,h=>by
  cases l with
  |nil=>exact absurd h hy
  |cons o l=>exact⟨by simp,rfl⟩
 |o::m,[],y,_,_,_,_,hy,h=>by
  rw[gY,zAe]at h;exact absurd h (vK _ _)
 |o::m,p::l,y,hm,hl,cm,cl,hy,h=>by
  rw[List.all_cons,zAc]at cm cl;rw[gY,gY,zAe]at h;have e1:=rQ (hm o (by simp)) cm.1 (iJ m++y)
  have e2:=rQ (hl p (by simp)) cl.1 (iJ l)
  rw[h,e2]at e1;obtain⟨rfl,e3⟩:=Prod.mk.inj (zBh e1);obtain⟨i1,i2⟩:=aMO m l y (fun o h=>hm o (by simp[h])) (fun o h=>hl o (by simp[h])) cm.2 cl.2 hy e3.symm
  exact⟨by simpa using i1,by rw[zAt,zAD,←i2]⟩
theorem aD0{rep size r s:Int}{l m:List Ord}{w:Txt}{k:Nat}(hl:∀o∈l,OM o)(hw:eD rep size l=some w)(hb:w.length≤9223372036854775807)(hk:k<w.length)(h:cW (w.take k)=some (r,s,m)):
  r=rep∧s=size∧m.length<l.length∧m=l.take m.length:=by
 obtain⟨h1,hm⟩:=xU (by rw[zAX];omega) h
 obtain⟨a1,a2,a3,a4,a5,a6⟩:=jL h1;obtain⟨b1,b2,b3,b4,b5,b6⟩:=jL hw;have e:w.take k++w.drop k=w:=List.take_append_drop k w;have hy:w.drop k≠[]:=fun q=>by have:=zA5 List.length q;simp at this;omega
 rw[a6]at e;conv at e=>rhs;rw[b6]
 rw[zAe,zAe]at e;have t1:=cT r.toNat (by omega) (aV s.toNat++(iJ m++w.drop k))
 have t2:=cT rep.toNat (by omega) (aV size.toNat++iJ l)
 rw[e,t2]at t1;obtain⟨e1,e2⟩:=Prod.mk.inj (zBh t1);have t3:=cT s.toNat (by omega) (iJ m++w.drop k)
 have t4:=cT size.toNat (by omega) (iJ l)
 rw[←e2,t4]at t3;obtain⟨e3,e4⟩:=Prod.mk.inj (zBh t3);obtain⟨c1,c2⟩:=aMO m l _ hm hl a5 b5 hy e4.symm;exact⟨by omega,by omega,c1,c2⟩
end
section
def bL(n:Nat):Nat:=(aV n).length
def xV(n i:Nat):UInt8:=UInt8.ofNat (n / 128 ^ (bL n-1-i) % 128+if i<bL n-1 then 128 else 0)
theorem aD1(n:Nat):(fY n).length=if n=0 then 0 else bL n:=by
 unfold bL aV;rw[fY];split
 ·rfl
 ·simp
theorem nL(n:Nat):bL n=if n≤127 then 1 else bL (n / 128)+1:=by
 unfold bL aV;simp only[zAa,zBw];rw[aD1];by_cases h:n≤127
 ·rw[zAp h,zAp (by omega)]
 ·rw[zAk h,zAk (by omega)]
  unfold bL aV;simp
theorem tW(n:Nat):1≤bL n:=by unfold bL aV;simp
theorem aD2(n:Nat):∀i,i<(fY n).length→(fY n)[i]?=some (UInt8.ofNat (n / 128 ^ ((fY n).length-1-i) % 128+128)):=by
 induction n using Nat.strongRecOn with
 |ind n ih=>
  intro i hi;unfold fY at hi ⊢;by_cases h0:n=0
  ·rw[zAp h0]at hi;simp at hi
  ·rw[zAk h0]at hi ⊢;simp only[zAa,zBw]at hi ⊢;by_cases h:i<(fY (n / 128)).length
   ·rw[zAf h,ih (n / 128) (by omega) i h]
    rw[Nat.div_div_eq_div_mul,show(fY (n / 128)).length+1-1-i=(fY (n / 128)).length-1-i+1 by omega,Nat.pow_succ,Nat.mul_comm 128]
   ·have hie:i=(fY (n / 128)).length:=by omega
    subst hie;simp
theorem aD3(n i:Nat)(hi:i<bL n):(aV n)[i]?=some (xV n i):=by
 unfold xV;have hl:bL n=(fY (n / 128)).length+1:=by unfold bL aV;simp
 unfold aV;by_cases h:i<(fY (n / 128)).length
 ·rw[zAf h,aD2 _ _ h,zAp (by omega),Nat.div_div_eq_div_mul,hl,show(fY (n / 128)).length+1-1-i=(fY (n / 128)).length-1-i+1 by omega,Nat.pow_succ,Nat.mul_comm 128]
 ·have hie:i=(fY (n / 128)).length:=by omega
  subst hie;rw[zAk (by omega),hl]
  simp
theorem aBX(n i:Nat)(hi:i<bL n):(aV n).take (i+1)=(aV n).take i++[xV n i]:=by
 have:=aD3 n i hi;rw[List.take_add_one,this];rfl
theorem fX(n:Nat)(h:n≤9223372036854775807):bL n≤9:=by
 have key:∀k n,n<128 ^ (k+1)→bL n≤k+1:=by
  intro k;induction k with
  |zero=>intro n hn;rw[nL,zAp (by omega)];exact zAb _
  |succ k ih=>
   intro n hn;rw[nL];split
   ·omega
   ·have:=ih (n / 128) (by rw[Nat.pow_succ]at hn;omega)
    omega
 exact key 8 n (by omega)
theorem xW{m:Nat}(h:m≤9223372036854775807):aY .and .i64 (m:Int) 127=((m % 128:Nat):Int):=by
 have e2:BitVec.ofInt 64 (m:Int)=BitVec.ofNat 64 m:=zBA ..;have e1:BitVec.ofInt 64 (127:Int)=BitVec.ofNat 64 127:=rfl;show IntKind.i64.wrap ((BitVec.ofInt 64 (m:Int)&&&BitVec.ofInt 64 (127:Int)).toNat:Int)=_;rw[e1,e2,BitVec.toNat_and,zBv,zBv,zBm (by omega),zBm (by omega)]
 have e3:=Nat.and_two_pow_sub_one_eq_mod m 7;rw[show 127=2 ^ 7-1 by omega,e3,wI]
theorem aAk{d:Nat}(h:d<128):aY .or .i64 (d:Int) 128=((d+128:Nat):Int):=by
 have:=vH (n:=1) (d:=d) (by omega) (by omega) h
 have e2:BitVec.ofInt 64 (d:Int)=BitVec.ofNat 64 d:=zBA ..;have e1:BitVec.ofInt 64 (128:Int)=BitVec.ofNat 64 128:=rfl;show IntKind.i64.wrap ((BitVec.ofInt 64 (d:Int)|||BitVec.ofInt 64 (128:Int)).toNat:Int)=_
 change IntKind.i64.wrap ((BitVec.ofInt 64 (1 * 128:Int)|||BitVec.ofInt 64 (d:Int)).toNat:Int)=_ at this
 rw[show(1 * 128:Int)=128 by omega,e1,e2,BitVec.or_comm]at this
 rw[e1,e2,this];omega
theorem aA8{n j:Nat}(hj:j≤9):((n:Int)).fdiv (2 ^ min ((7 * (j:Int)).toNat) 64)=((n / 128 ^ j:Nat):Int):=by
 have hh:j=0∨j=1∨j=2∨j=3∨j=4∨j=5∨j=6∨j=7∨j=8∨j=9:=by omega
 rcases hh with rfl|rfl|rfl|rfl|rfl|rfl|rfl|rfl|rfl|rfl;all_goals
  rw[zBk _ (by decide)]
  simp
theorem aA9(t:Txt)(x:UInt8):bA (t++[x])=bA t++[.int .u8 x.toNat]:=by simp[bA]
end
section
def aJy(n:Int)(k:Nat):UInt8:=UInt8.ofNat (IntKind.u8.wrap (n.fdiv (2 ^ min k 32))).toNat
def aGm(n:Int):Txt:=[aJy n 24,aJy n 16,aJy n 8,UInt8.ofNat (IntKind.u8.wrap n).toNat]
def nM(n:Int):Int:=aY .xor .u32 (IntKind.u32.wrap (n * 2 ^ min 1 32)) (if n.fdiv (2 ^ min 31 32)=0 then 0 else 79764919)
def xX:Nat→Int→Int
 |0,n=>n
 |k+1,n=>xX k (nM n)
def xY(n:Int)(c:UInt8):Int:=xX 8 (aY .xor .u32 n (IntKind.u32.wrap (IntKind.u32.wrap c.toNat * 2 ^ min 24 32)))
def aBY(s:Txt):Int:=s.foldl xY 4294967295
def lW(s:Txt):Txt:=s++aGm (aBY s)
structure Pat where
 at_:Int
 data:Txt
deriving DecidableEq,Inhabited
structure Dis where
 size:Int
 firm:Txt
 loose:List Pat
deriving DecidableEq,Inhabited
def iH(p:Pat):AV:=.agg [.int .i64 p.at_,.str p.data]
@[go_sem] theorem aOF(x:Pat):Pur (iH x)=True:=by simp only[iH,go_sem]
def sO(f:Bool)(d:Dis):AV:=.agg [.int .i64 d.size,.str d.firm,.sl f (d.loose.map iH)]
@[go_sem] theorem aOG(f:Bool)(x:Dis):Pur (sO f x)=True:=by simp only[sO,go_sem]
def fA(n:Nat):Txt:=List.replicate n 0
theorem lK(n:Nat):(fA n).length=n:=zBu
theorem xZ(n:Nat):(List.replicate n (AV.int .u8 0)).flatMap AV.cells=bA (fA n):=by
 unfold fA bA;rw[List.map_replicate];induction n with
 |zero=>rfl
 |succ n ih=>rw[zBb,zAF,ih];rfl
theorem aAl(n:Nat):List.take (n * 1) (bA (fA n))=bA (fA n):=zAT (by rw[fS,lK];omega)
theorem yA(n:Nat):(List.replicate n (AV.agg [.int .u8 0,.int .u8 0,.int .u8 0,.int .u8 0,.int .u8 0,.int .u8 0,.int .u8 0,.int .u8 0,.int .u8 0,.int .u8 0,.int .u8 0,.int .u8 0,.int .u8 0,.int .u8 0,.int .u8 0,.int .u8 0])).flatMap AV.cells=bA (fA (n * 16)):=by
 induction n with
 |zero=>rfl
 |succ n ih=>
  rw[zBb,zAF,ih,zBF,Nat.add_comm];unfold fA;rw[←List.replicate_append_replicate,qJ];rfl
theorem tX(t u:Txt)(off:Nat):bI (bA t) off (bA u)=bA (t.take off++(u++t.drop (off+u.length))):=by
 unfold bI bA;simp
attribute [go_sem] lK xZ aAl yA
def aS(s:Txt):Nat:=(s.length+15) / 16
def vL(s:Txt):Txt:=s.take 16++fA (16-s.length)
def gM(s:Txt):List Txt:=(List.range (aS s)).map fun i=>vL (s.drop (i * 16))
def tY(t:Txt)(off:Nat)(s:Txt):Txt:=t.take off++(s.take (t.length-off)++t.drop (off+s.length))
def vM(size:Int):Dis:=⟨min (max size 0) 65536,fA ((min (max size 0) 65536).toNat * 16),[]⟩
def lA(n:Int)(p:Pat):Bool:=decide (0≤p.at_)&&(decide (p.at_<n)&&decide (p.data.length=16))
def chkK(d:Dis):Bool:=decide (0≤d.size)&&(decide (d.size≤65536)&&(decide ((d.firm.length:Int)=d.size * 16)&&d.loose.all (lA d.size)))
def aD4(d:Dis)(a n:Nat):Txt:=d.loose.foldl (fun(t:Txt) (p:Pat)=>if(a:Int)≤p.at_∧p.at_<a+n then tY t ((p.at_.toNat-a) * 16) p.data else t) ((d.firm.drop (a * 16)).take (n * 16))
def kG(at_:Nat)(l:List Txt):List Pat:=(List.range l.length).map fun i=>⟨(at_+i:Nat),l.getD i []⟩
def iF(d:Dis)(at_:Int)(s:Txt):Dis×Int:=
 if at_<0 then(d,121)else if d.size-aS s<at_ then(d,120)else({d with loose:=d.loose++kG at_.toNat (gM s)},0)
def rR(d:Dis):Dis:=⟨d.size,aD4 d 0 d.size.toNat,[]⟩
def aBa(n:Nat):UInt8:=UInt8.ofNat (n % 250+1)
def kB:Nat→Txt→List Txt
 |0,_=>[]
 |k+1,b=>if b=[]then[]else b.take 14::kB k (b.drop 14)
def jC(b:Txt):List Txt:=kB b.length b
def eO(m:UInt8)(p:Txt):Txt:=m::(p++(fA (14-p.length)++[m]))
def pE(n:Nat)(p:Txt):Txt:=bW (lW (aV n++bW p))
def aBb(n:Nat)(p:Txt):Txt:=(jC (pE n p)).flatMap (eO (aBa n))
def aBc(n:Int)(p:Txt):Txt×Int:=if n<1∨1000000<n∨40000<p.length then([],130)else(aBb n.toNat p,0)
structure Wal where
 disk:Dis
 seq:Int
 base:Int
 next:Int
 end_:Int
 spilled:Int
 kept:Int
 waits:List Txt
 dirty:Bool
 marked:Int
 mnext:Int
 mmany:Int
deriving DecidableEq,Inhabited
def waF(f g:Bool)(w:Wal):AV:=.agg [.int .i64 w.disk.size,.str w.disk.firm,.sl f (w.disk.loose.map iH),.int .i64 w.seq,.int .i64 w.base,.int .i64 w.next,.int .i64 w.end_,.int .i64 w.spilled,.int .i64 w.kept,.sl g (w.waits.map AV.str),.bool w.dirty,.int .i64 w.marked,.int .i64 w.mnext,.int .i64 w.mmany]
@[go_sem] theorem aOH(f g:Bool)(x:Wal):Pur (waF f g x)=True:=by simp only[waF,go_sem]
def aBZ:Wal:=⟨⟨0,[],[]⟩,0,0,0,0,0,0,[],false,0,0,0⟩
def iV(size:Nat):Nat:=size / 4
def lX(size seq:Nat):Nat:=if seq % 2=0 then 0 else iV size
def iW(base:Nat)(state:Txt):Txt:=aV base++bW state
end
section
def aMP(e:Int):Ans:={an0 with err:=e}
def doM(m:Mdl)(c:Cal):Mdl×Ans×List Opn:=
 if chkC c=false then(m,aMP 180,[])else
 if(xI c ⟨m,an0,[]⟩).1=0 then
  (if(xI c ⟨m,an0,[]⟩).2.ops=[]then((xI c ⟨m,an0,[]⟩).2.m,(xI c ⟨m,an0,[]⟩).2.a,[])
  else((aML m.log.nodes (xI c ⟨m,an0,[]⟩).2).m,(xI c ⟨m,an0,[]⟩).2.a,(xI c ⟨m,an0,[]⟩).2.ops))
 else(m,aMP (xI c ⟨m,an0,[]⟩).1,[])
def yB(r:Int):Mdl×Int:=if 0≤r∧r≤63 then({md0 with rep:=r,next:=1},0)else(md0,20)
end
section
theorem aD5{G:AHeap}{i j n:Nat}(h1:i<G.length)(h2:j<G.length)(hne:i<j)(hn:G.length=n):
  (∀L X,aA (G++L) i X=aA G i X++L)∧(∀L X,aA (G++L) j X=aA G j X++L)∧(∀v X,hget (aA G i (.cells v X)) i=.cells v X)∧(∀v X L,hget (aA G i (.cells v X)++L) i=.cells v X)∧(∀X Y,aA (aA G i X) i Y=aA G i Y)∧
  (∀X Y L,aA (aA G i X++L) i Y=aA G i Y++L)∧(∀X Y,aA (aA G i X) j Y=aA (aA G j Y) i X)∧(∀X Y L,aA (aA G i X++L) j Y=aA (aA G j Y) i X++L)∧(∀v X Y L,hget (aA (aA G j Y) i (.cells v X)++L) i=.cells v X)∧
  (∀X v Y L,hget (aA (aA G j (.cells v Y)) i X++L) j=.cells v Y)∧(∀X Y Z L,aA (aA (aA G j Y) i X++L) i Z=aA (aA G j Y) i Z++L)∧(∀X Y Z L,aA (aA (aA G j Y) i X++L) j Z=aA (aA G j Z) i X++L)∧
  (∀X L,hget (aA G i X++L) n=L.getD 0 .gone)∧(∀X L k,hget (aA G i X++L) (n+k)=L.getD k .gone)∧(∀X Y L,hget (aA (aA G j Y) i X++L) n=L.getD 0 .gone)∧(∀X Y L k,hget (aA (aA G j Y) i X++L) (n+k)=L.getD k .gone)∧
  (∀X Y L,aA (aA G i X++L) n Y=aA G i X++L.set 0 Y)∧(∀X Y L k,aA (aA G i X++L) (n+k) Y=aA G i X++L.set k Y)∧(∀v Y L,hget (aA G j (.cells v Y)++L) j=.cells v Y)∧(∀X Y L,aA (aA G j Y++L) i X=aA (aA G j Y) i X++L)∧
  (∀L,hget (G++L) n=L.getD 0 .gone)∧(∀L k,hget (G++L) (n+k)=L.getD k .gone)∧(∀Y L,aA (G++L) n Y=G++L.set 0 Y)∧(∀Y L k,aA (G++L) (n+k) Y=G++L.set k Y):=by
 subst hn;have n1:∀X,(aA G i X).length=G.length:=fun X=>bF _ _ _
 have n2:∀X Y,(aA (aA G j Y) i X).length=G.length:=fun X Y=>by rw[bF,bF]
 have n3:∀Y,(aA G j Y).length=G.length:=fun X=>bF _ _ _
 have ne:j≠i:=by omega
 refine⟨fun L X=>bQ h1 L X,fun L X=>bQ h2 L X,fun v X=>bX h1 _,fun v X L=>aK (b:=.cells v X) (bX h1 _) trivial L,fun X Y=>cB _ _ _ _,fun X Y L=>?_,fun X Y=>?_,fun X Y L=>?_,fun v X Y L=>?_,fun X v Y L=>?_,fun X Y Z L=>?_,fun X Y Z L=>?_,
  fun X L=>rI (n1 X),fun X L k=>?_,fun X Y L=>rI (n2 X Y),fun X Y L k=>?_,fun X Y L=>xH (n1 X) Y,fun X Y L k=>aA4 (n1 X) Y,fun v Y L=>aK (b:=.cells v Y) (bX h2 _) trivial L,fun X Y L=>bQ (by rw[n3];exact h1) L X,
  fun L=>fU _ _,fun L k=>jF _ _ _,fun Y L=>nW _ _ _,fun Y L k=>mX _ _ _ _⟩
 ·rw[bQ (by rw[n1];exact h1),cB]
 ·rw[fV _ _ _ (by omega)]
 ·rw[bQ (by rw[n1];exact h2),fV _ _ _ (by omega)]
 ·exact aK (b:=.cells v X) (bX (by rw[n3];exact h1) _) trivial L
 ·exact aK (b:=.cells v Y) (aR (bX h2 _) (by omega) _) trivial L
 ·rw[bQ (by rw[n2];exact h1),cB]
 ·rw[bQ (by rw[n2];exact h2),fV (aA G j Y) _ _ (by omega),cB]
 ·rw[←n1 X];exact jF _ _ _
 ·rw[←n2 X Y];exact jF _ _ _
theorem aOI(k:Nat)(l:List Opn):∀x∈flA opA l,Cl k x:=fun x hx=>(aGf (fun x=>by simp only[go_sem]) l x hx).cl k
def dkC(j:Nat)(c:Cal)(d:Dsk):List AV:=
 [.sl false (d.m.log.entries.map enA),.sl false (d.m.log.nodes.map ndA),.int .i64 d.m.seen,.int .i64 d.m.rep,.sl false (d.m.snaps.map snA),.sl false (d.m.watches.map waA),.int .i64 d.m.next,
  .int .i64 d.a.err,.str d.a.data,.sl false (d.a.names.map AV.str),.int .i64 d.a.n,.sl false (d.a.events.map evA),
  .int .i64 c.kind,.str c.path,.str c.to,.str c.data,.int .i64 c.n,.osl 7 j (d.ops.length+1) 0 d.ops.length d.ops.length]
structure KB (i j:Nat) (c:Cal) (d:Dsk) (G:AHeap):Prop where
 ne:i<j
 b1:hget G i=.cells 0 (dkC j c d)
 b2:hget G j=.cells (d.ops.length+1) (flA opA d.ops)
section
variable {i j:Nat} {c:Cal} {d:Dsk} {G:AHeap} (h:KB i j c d G)
include h
end
theorem aOJ(k:Nat)(b:Bool)(l:List Nd):Cl k (.sl b (l.map ndA)):=(Pur.sl b _ fun x hx=>by obtain⟨y, -,rfl⟩:=zAi.1 hx;simp only[go_sem]).cl k
theorem aOK(k:Nat)(b:Bool)(l:List Ent):Cl k (.sl b (l.map enA)):=(Pur.sl b _ fun x hx=>by obtain⟨y, -,rfl⟩:=zAi.1 hx;simp only[go_sem]).cl k
theorem aOL(k:Nat)(b:Bool)(l:List Snp):Cl k (.sl b (l.map snA)):=(Pur.sl b _ fun x hx=>by obtain⟨y, -,rfl⟩:=zAi.1 hx;simp only[go_sem]).cl k
theorem aOM(k:Nat)(b:Bool)(l:List Wch):Cl k (.sl b (l.map waA)):=(Pur.sl b _ fun x hx=>by obtain⟨y, -,rfl⟩:=zAi.1 hx;simp only[go_sem]).cl k
theorem aON(k:Nat)(b:Bool)(l:List Evt):Cl k (.sl b (l.map evA)):=(Pur.sl b _ fun x hx=>by obtain⟨y, -,rfl⟩:=zAi.1 hx;simp only[evA,go_sem]).cl k
end
section
def aAm:List Pl:=[.free,.pure 0,.pure 0,.pure 0,.pure 0,.free,.pure 0,.pure 0,.pure 0,.pure 0,.pure 0,.free,.free,.free,.eff [true,true,true,true,true,true,true,true,true],.eff [false,false,false,false,false,false,false,false,false],.free]
def aAn:List Pl:=[.free,.pure 0,.pure 0,.pure 0,.pure 0,.pure 0,.pure 0,.free,.free,.free,.eff [true,true,true,true,true,true],.eff [false,false,false,false,false,false],.free]
def aAo:List Pl:=[.free,.free,.pure 0,.pure 0,.pure 0,.pure 0,.free,.eff [true,false,true,true],.pure 0,.pure 0,.eff [false,true,false,false,false]]
attribute [go_sem] aAm aAn aAo
end
section
structure Hld where
 lock:Int
 thr:Int
deriving DecidableEq,Inhabited
structure Wai where
 thr:Int
 upto:Int
deriving DecidableEq,Inhabited
structure Tbl where
 held:List Hld
 waits:List Hld
deriving DecidableEq,Inhabited
structure Grp where
 kept:Int
 waits:List Wai
deriving DecidableEq,Inhabited
structure Cor where
 m:Mdl
 t:Tbl
 g:Grp
 ths:List Thr
 time:Int
 ops:List Opn
deriving DecidableEq,Inhabited
def hdA(h:Hld):AV:=.agg [.int .i64 h.lock,.int .i64 h.thr]
def wtA(w:Wai):AV:=.agg [.int .i64 w.thr,.int .i64 w.upto]
def tbA(f1 f2:Bool)(t:Tbl):AV:=.agg [.sl f1 (t.held.map hdA),.sl f2 (t.waits.map hdA)]
def gpA(f:Bool)(g:Grp):AV:=.agg [.int .i64 g.kept,.sl f (g.waits.map wtA)]
def thr(t:Thr):AV:=.agg [.int .i64 t.call.kind,.str t.call.path,.str t.call.to,.str t.call.data,.int .i64 t.call.n,.sl false (t.has.map sG),.int .i64 t.at_,.bool t.done,.bool t.ended,.int .i64 t.upto,.int .i64 t.begin_,.int .i64 t.mark,.int .i64 t.end_,
 .int .i64 t.ans.err,.str t.ans.data,.sl false (t.ans.names.map AV.str),.int .i64 t.ans.n,.sl false (t.ans.events.map evA)]
def coF(e n s w h q g t o:AV)(x:Cor):AV:=.agg [e,n,.int .i64 x.m.seen,.int .i64 x.m.rep,s,w,.int .i64 x.m.next,h,q,.int .i64 x.g.kept,g,t,.int .i64 x.time,o]
def coA(f1 f2 f3 f4 f5 f6 f7 f8 f9:Bool)(x:Cor):AV:=coF (.sl f1 (x.m.log.entries.map enA)) (.sl f2 (x.m.log.nodes.map ndA)) (.sl f3 (x.m.snaps.map snA)) (.sl f4 (x.m.watches.map waA)) (.sl f5 (x.t.held.map hdA)) (.sl f6 (x.t.waits.map hdA)) (.sl f7 (x.g.waits.map wtA)) (.sl f8 (x.ths.map thr)) (.sl f9 (x.ops.map opA)) x
@[go_sem] theorem aOO(x:Hld):Pur (hdA x)=True:=by simp only[hdA,go_sem]
@[go_sem] theorem aOP(x:Wai):Pur (wtA x)=True:=by simp only[wtA,go_sem]
@[go_sem] theorem aOQ(f1 f2:Bool)(x:Tbl):Pur (tbA f1 f2 x)=True:=by simp only[tbA,go_sem]
@[go_sem] theorem aOR(f:Bool)(x:Grp):Pur (gpA f x)=True:=by simp only[gpA,go_sem]
@[go_sem] theorem aOS(x:Thr):Pur (thr x)=True:=by simp only[thr,go_sem]
@[go_sem] theorem aOT(f1 f2 f3 f4 f5 f6 f7 f8 f9:Bool)(x:Cor):Pur (coA f1 f2 f3 f4 f5 f6 f7 f8 f9 x)=True:=by simp only[coA,coF,go_sem]
def tb0:Tbl:=⟨[],[]⟩
def gp0:Grp:=⟨0,[]⟩
def co0:Cor:=⟨md0,tb0,gp0,[],0,[]⟩
def yC(r:Int):Cor×Int:=if(yB r).2=0 then({co0 with m:=(yB r).1},0)else(co0,(yB r).2)
end
section
def putM(m:Mdl)(o:Opn):Mdl:={m with log:=aMt m.log o,seen:=m.seen+1}
end
section
def bornO(m:Mdl)(c:Cal)(dir:Int)(s:Txt):Opn:=⟨⟨m.seen+1,m.rep⟩,1,idI (m.seen+1) m.rep (decide (c.kind=1)),dir,s,[]⟩
end
section
def tellM(m m':Mdl):Mdl:={m' with watches:=m'.watches.map (aHH m.log.nodes m'.log.nodes)}
end
section
def bornN(m:Mdl)(c:Cal)(dir:Int)(s:Txt):Nd:=⟨idI (m.seen+1) m.rep (decide (c.kind=1)),dir,s,⟨m.seen+1,m.rep⟩,[],st0⟩
structure Made (m:Mdl) (c:Cal) (dir:Int) (s:Txt):Prop where
 does:doM m c=(tellM m (putM m (bornO m c dir s)),an0,[bornO m c dir s])
 chk:chkC c=true
 root:c.path≠[47]
 abv:abvN m.log.nodes c.path=(dir,s,0)
 none_:childN m.log.nodes dir s=none
 nodes:(putM m (bornO m c dir s)).log.nodes=m.log.nodes++[bornN m c dir s]
 new:∀n∈m.log.nodes,n.id≠idI (m.seen+1) m.rep (decide (c.kind=1))∧n.parent≠idI (m.seen+1) m.rep (decide (c.kind=1))
 ne:dir≠idI (m.seen+1) m.rep (decide (c.kind=1))
 chks:Go.Proofs.YtigedpfipifefaaGreatDoor.chk (m.log.nodes++[bornN m c dir s])=true
 dir_:dirI (idI (m.seen+1) m.rep (decide (c.kind=1)))= !decide (c.kind=1)
 child:childN (m.log.nodes++[bornN m c dir s]) dir s=some (bornN m c dir s)
section
variable {g:Nd→Nd} (hn:∀n,(g n).name=n.name) (hp:∀n,(g n).parent=n.parent) (hm:∀n,(g n).moved=n.moved)
end
end
section
open Go.ChangeShapes Go.WideShapes Go.ChangeAt Go.RowKit
theorem aMS:dG Tryz.prog 34=true:=by kernel_rfl
theorem aJz:kindB Tryz.prog 34=true:=by kernel_rfl
theorem aJA:dG Tryz.prog 22=false:=by kernel_rfl
theorem aGn:kindB Tryz.prog 22=true:=by kernel_rfl
theorem aD6{ys:List AV}(h:Sh Tryz.prog 34 ys):∃a,ys=(eH a).cells:=by
 obtain⟨y1,ys1,rfl,h1,r1⟩:=nB (aBD Tryz.underlying34 aJz h);obtain⟨y2,ys2,rfl,h2,r2⟩:=nB r1;obtain⟨y3,ys3,rfl,h3,r3⟩:=nB r2;obtain⟨y4,ys4,rfl,h4,r4⟩:=nB r3;obtain rfl:=aFY r4;obtain⟨s,rfl,_⟩:=qY Tryz.underlying3 h1;obtain⟨c,rfl⟩:=aMN h2;obtain⟨p,rfl,_⟩:=qY Tryz.underlying3 h3;obtain⟨f,rfl,_⟩:=aI3 Tryz.underlying9 h4;exact⟨⟨s,c,p,f⟩,rfl⟩
theorem aGo{zs:List (List AV)}(h:∀z∈zs,Sh Tryz.prog 34 z):∃l,zs.map (mkA Tryz.prog 34)=List.map eH l∧l.length=zs.length:=by
 induction zs with
 |nil=>exact⟨[],rfl,rfl⟩
 |cons z zs ih=>
  obtain⟨p,rfl⟩:=aD6 (h z (by simp))
  obtain⟨l,h1,h2⟩:=ih fun z hz=>h z (by simp[hz])
  refine⟨p::l,?_,by simp[h2]⟩
  rw[zAV,zAV,h1,mkA,zAp aMS];rfl
theorem tZ{x:AV}(h:∃ys,x=mkA Tryz.prog 22 ys∧Sh Tryz.prog 22 ys∧(dG Tryz.prog 22=true∨ys.length=1)):∃l,x=.sl false (List.map eH l)∧l.length≤maxLen:=by
 obtain⟨ys,rfl,h,_⟩:=h;obtain⟨zs,rfl,hl,hz⟩:=aDi Tryz.underlying22 aGn h;obtain⟨l,h1,h2⟩:=aGo hz;refine⟨l,?_,by rw[h2];exact hl⟩
 rw[mkA,zAk (by rw[aJA];decide),h1];rfl
end
end Go.Proofs.YtigedpfipifefaaGreatDoor

/- What the functions of this seat answer (17 of 38). No condition. -/
import Derived.Test.YtennnelammaapaaGreatDoorWorkAM
import Derived.Test.YtennnelammaapaaGreatDoorWorkAO
set_option linter.unusedSimpArgs false
set_option linter.unusedVariables false
set_option linter.unusedSectionVars false
set_option maxRecDepth 100000
set_option maxHeartbeats 16000000
namespace Go.Proofs.YtennnelammaapaaGreatDoor
section
theorem tZ{G:AHeap}{i j n:Nat}(h1:i<G.length)(h2:j<G.length)(hne:i<j)(hn:G.length=n):
  (∀L X,aB (G++L) i X=aB G i X++L)∧(∀L X,aB (G++L) j X=aB G j X++L)∧(∀v X,hget (aB G i (.cells v X)) i=.cells v X)∧(∀v X L,hget (aB G i (.cells v X)++L) i=.cells v X)∧(∀X Y,aB (aB G i X) i Y=aB G i Y)∧
  (∀X Y L,aB (aB G i X++L) i Y=aB G i Y++L)∧(∀X Y,aB (aB G i X) j Y=aB (aB G j Y) i X)∧(∀X Y L,aB (aB G i X++L) j Y=aB (aB G j Y) i X++L)∧(∀v X Y L,hget (aB (aB G j Y) i (.cells v X)++L) i=.cells v X)∧
  (∀X v Y L,hget (aB (aB G j (.cells v Y)) i X++L) j=.cells v Y)∧(∀X Y Z L,aB (aB (aB G j Y) i X++L) i Z=aB (aB G j Y) i Z++L)∧(∀X Y Z L,aB (aB (aB G j Y) i X++L) j Z=aB (aB G j Z) i X++L)∧
  (∀X L,hget (aB G i X++L) n=L.getD 0 .gone)∧(∀X L k,hget (aB G i X++L) (n+k)=L.getD k .gone)∧(∀X Y L,hget (aB (aB G j Y) i X++L) n=L.getD 0 .gone)∧(∀X Y L k,hget (aB (aB G j Y) i X++L) (n+k)=L.getD k .gone)∧
  (∀X Y L,aB (aB G i X++L) n Y=aB G i X++L.set 0 Y)∧(∀X Y L k,aB (aB G i X++L) (n+k) Y=aB G i X++L.set k Y)∧(∀v Y L,hget (aB G j (.cells v Y)++L) j=.cells v Y)∧(∀X Y L,aB (aB G j Y++L) i X=aB (aB G j Y) i X++L)∧
  (∀L,hget (G++L) n=L.getD 0 .gone)∧(∀L k,hget (G++L) (n+k)=L.getD k .gone)∧(∀Y L,aB (G++L) n Y=G++L.set 0 Y)∧(∀Y L k,aB (G++L) (n+k) Y=G++L.set k Y):=by
 subst hn;have n1:∀X,(aB G i X).length=G.length:=fun X=>aC _ _ _
 have n2:∀X Y,(aB (aB G j Y) i X).length=G.length:=fun X Y=>by rw[aC,aC]
 have n3:∀Y,(aB G j Y).length=G.length:=fun X=>aC _ _ _
 have ne:j≠i:=by omega
 refine⟨fun L X=>bD h1 L X,fun L X=>bD h2 L X,fun v X=>aX h1 _,fun v X L=>aD (b:=.cells v X) (aX h1 _) trivial L,fun X Y=>bE _ _ _ _,fun X Y L=>?_,fun X Y=>?_,fun X Y L=>?_,fun v X Y L=>?_,fun X v Y L=>?_,fun X Y Z L=>?_,fun X Y Z L=>?_,
  fun X L=>iS (n1 X),fun X L k=>?_,fun X Y L=>iS (n2 X Y),fun X Y L k=>?_,fun X Y L=>aA7 (n1 X) Y,fun X Y L k=>vQ (n1 X) Y,fun v Y L=>aD (b:=.cells v Y) (aX h2 _) trivial L,fun X Y L=>bD (by rw[n3];exact h1) L X,
  fun L=>eZ _ _,fun L k=>qZ _ _ _,fun Y L=>aBZ _ _ _,fun Y L k=>aAP _ _ _ _⟩
 ·rw[bD (by rw[n1];exact h1),bE]
 ·rw[fC _ _ _ (by omega)]
 ·rw[bD (by rw[n1];exact h2),fC _ _ _ (by omega)]
 ·exact aD (b:=.cells v X) (aX (by rw[n3];exact h1) _) trivial L
 ·exact aD (b:=.cells v Y) (aH (aX h2 _) (by omega) _) trivial L
 ·rw[bD (by rw[n2];exact h1),bE]
 ·rw[bD (by rw[n2];exact h2),fC (aB G j Y) _ _ (by omega),bE]
 ·rw[←n1 X];exact qZ _ _ _
 ·rw[←n2 X Y];exact qZ _ _ _
theorem aXX(k:Nat)(l:List Opn):∀x∈flA opA l,Cl k x:=fun x hx=>(eY (fun x=>by simp only[go_sem]) l x hx).cl k
def dkC(j:Nat)(c:Cal)(d:Dsk):List AV:=
 [.sl false (d.m.log.entries.map iB),.sl false (d.m.log.nodes.map ndA),.int .i64 d.m.seen,.int .i64 d.m.rep,.sl false (d.m.snaps.map iG),.sl false (d.m.watches.map dJ),.int .i64 d.m.next,
  .int .i64 d.a.err,.str d.a.data,.sl false (d.a.names.map AV.str),.int .i64 d.a.n,.sl false (d.a.events.map fF),
  .int .i64 c.kind,.str c.path,.str c.to,.str c.data,.int .i64 c.n,.osl 7 j (d.ops.length+1) 0 d.ops.length d.ops.length]
structure KB (i j:Nat) (c:Cal) (d:Dsk) (G:AHeap):Prop where
 ne:i<j
 b1:hget G i=.cells 0 (dkC j c d)
 b2:hget G j=.cells (d.ops.length+1) (flA opA d.ops)
def oL(G:AHeap)(i j:Nat)(c:Cal)(d:Dsk):AHeap:=aB (aB G j (.cells (d.ops.length+1) (flA opA d.ops))) i (.cells 0 (dkC j c d))
theorem wH(G:AHeap)(i j:Nat)(c:Cal)(d:Dsk):(oL G i j c d).length=G.length:=by unfold oL;rw[aC,aC]
section
variable {i j:Nat} {c:Cal} {d:Dsk} {G:AHeap} (h:KB i j c d G)
include h
theorem KB.lt1:i<G.length:=aV h.b1 trivial
theorem KB.lt2:j<G.length:=aV h.b2 trivial
theorem KB.own:oL G i j c d=G:=by unfold oL;rw[cI h.b2 trivial,cI h.b1 trivial]
theorem KB.app(L:AHeap):KB i j c d (G++L):=⟨h.ne,aD h.b1 trivial L,aD h.b2 trivial L⟩
theorem KB.happ(d':Dsk)(L:AHeap):oL (G++L) i j c d'=oL G i j c d'++L:=by
 unfold oL;rw[bD h.lt2,bD (by rw[aC];exact h.lt1)]
theorem KB.put(d':Dsk):KB i j c d' (oL G i j c d'):=by
 have hne:¬j=i:=by have:=h.ne;omega
 refine⟨h.ne,aX (by rw[aC];exact h.lt1) _,?_⟩
 unfold oL;rw[fC _ _ _ hne];exact aX (by rw[aC];exact h.lt2) _
theorem KB.twice(d1 d2:Dsk):oL (oL G i j c d1) i j c d2=oL G i j c d2:=by
 have hne:¬j=i:=by have:=h.ne;omega
 unfold oL;rw[fC (aB G j _) _ _ (fun e=>hne e.symm),bE,bE]
theorem KB.r3:∀X L,hget (aB G i X++L) j=.cells (d.ops.length+1) (flA opA d.ops):=fun X L=>aD (aH h.b2 (by have:=h.ne;omega) X) trivial L
theorem KB.r4:∀X,hget (aB G i X) j=.cells (d.ops.length+1) (flA opA d.ops):=fun X=>aH h.b2 (by have:=h.ne;omega) X
theorem KB.one{d':Dsk}(ho:d'.ops=d.ops):aB G i (.cells 0 (dkC j c d'))=oL G i j c d':=by
 unfold oL;rw[ho,cI h.b2 trivial]
end
theorem yD(k:Nat)(b:Bool)(l:List Nd):Cl k (.sl b (l.map ndA)):=(Pur.sl b _ fun x hx=>by obtain⟨y, -,rfl⟩:=zAm.1 hx;simp only[go_sem]).cl k
theorem yE(k:Nat)(b:Bool)(l:List Ent):Cl k (.sl b (l.map iB)):=(Pur.sl b _ fun x hx=>by obtain⟨y, -,rfl⟩:=zAm.1 hx;simp only[go_sem]).cl k
theorem yF(k:Nat)(b:Bool)(l:List Snp):Cl k (.sl b (l.map iG)):=(Pur.sl b _ fun x hx=>by obtain⟨y, -,rfl⟩:=zAm.1 hx;simp only[go_sem]).cl k
theorem yG(k:Nat)(b:Bool)(l:List Wch):Cl k (.sl b (l.map dJ)):=(Pur.sl b _ fun x hx=>by obtain⟨y, -,rfl⟩:=zAm.1 hx;simp only[go_sem]).cl k
theorem yH(k:Nat)(b:Bool)(l:List Txt):Cl k (.sl b (l.map AV.str)):=(Pur.sl b _ fun x hx=>by obtain⟨y, -,rfl⟩:=zAm.1 hx;exact .str _).cl k
theorem yI(k:Nat)(b:Bool)(l:List Evt):Cl k (.sl b (l.map fF)):=(Pur.sl b _ fun x hx=>by obtain⟨y, -,rfl⟩:=zAm.1 hx;simp only[fF,go_sem]).cl k
theorem aVT{n j:Nat}(hj:j<n)(c:Cal)(d:Dsk):ClB n (.cells 0 (dkC j c d)):=fun x hx=>by
 simp only[dkC,zAs,zAH,zBv]at hx;rcases hx with rfl|rfl|rfl|rfl|rfl|rfl|rfl|rfl|rfl|rfl|rfl|rfl|rfl|rfl|rfl|rfl|rfl|rfl;all_goals first|exact .int _ _|exact .str _|exact yE _ _ _|exact yD _ _ _|exact yF _ _ _|exact yG _ _ _|exact yH _ _ _|exact yI _ _ _|exact .osl _ _ _ _ _ _ hj
theorem qK{i j:Nat}{c:Cal}{d d':Dsk}{G A L:AHeap}(h:KB i j c d G){e:Int}{v:AV}(hv:v=.int .i64 e)(hA:A=oL G i j c d'):
  ∃H1 L' y,A++L=H1++L'∧H1.length=G.length∧(∀(k:Nat) (b:ABlk),H1[k]?=some b→G[k]?=some b∨ClB G.length b)∧Frz G.length (A++L) v y∧(y=.int .i64 e∧H1=oL G i j c d'):=by
 subst hv;subst hA;refine⟨_,L,_,rfl,wH _ _ _ _ _,fun k b hk=>?_,.cl _ (.int _ _),rfl,rfl⟩
 unfold oL at hk;rcases dW (aVT h.lt2 c d') k b hk with hk|hk
 ·exact dW (rR (enc:=opA) (fun x=>by simp only[go_sem]) G.length (d'.ops.length+1) d'.ops) k b hk
 ·exact .inr hk
theorem aHg{i j:Nat}{c:Cal}{d d':Dsk}{G A:AHeap}(h:KB i j c d G){e:Int}{v:AV}(hv:v=.int .i64 e)(hA:A=oL G i j c d'):
  ∃H1 L' y,A=H1++L'∧H1.length=G.length∧(∀(k:Nat) (b:ABlk),H1[k]?=some b→G[k]?=some b∨ClB G.length b)∧Frz G.length A v y∧(y=.int .i64 e∧H1=oL G i j c d'):=by
 have:=qK (L:=[]) h hv hA;rwa[zAd]at this
def aEv(P:Program)(f:FuncId)(i j:Nat)(c:Cal)(r:Int×Dsk)(G:AHeap):Prop:=ACalls P f [.ref i 0 0] G (fun v H'=>v=.int .i64 r.1∧H'=oL G i j c r.2)
def aSA(o:Option (List Nd)):AV:=match o with
 |none=>.tup [.sl true [],.int .i64 191]
 |some l=>.tup [.sl false (l.map ndA),.int .i64 0]
def aOM(r:Int×Txt×Int):AV:=.tup [.int .i64 r.1,.str r.2.1,.int .i64 r.2.2]
structure DS (m:Mdl):Prop where
 nodes:m.log.nodes.length≤1000000
 ents:m.log.entries.length≤1000000
 ops:∀e∈m.log.entries,OpS e.op
 snaps:m.snaps.length≤1000000
 watches:m.watches.length≤1000000
 snap:∀s∈m.snaps,s.nodes.length≤1000000
 evs:∀w∈m.watches,w.evs.length≤1000000
end
section
def qL:List Pl:=[.free,.pure 0,.pure 0,.pure 0,.pure 0,.free,.pure 0,.pure 0,.pure 0,.pure 0,.pure 0,.free,.free,.free,.eff [true,true,true,true,true,true,true,true,true],.eff [false,false,false,false,false,false,false,false,false],.free]
def uQ:List Pl:=[.free,.pure 0,.pure 0,.pure 0,.pure 0,.pure 0,.pure 0,.free,.free,.free,.eff [true,true,true,true,true,true],.eff [false,false,false,false,false,false],.free]
def uR:List Pl:=[.free,.free,.pure 0,.pure 0,.pure 0,.pure 0,.free,.eff [true,false,true,true],.pure 0,.pure 0,.eff [false,true,false,false,false]]
attribute [go_sem] qL uQ uR
theorem aXY(b:Bool)(l:List Nd)(p:Txt)(hl:l.length≤1073741824)(hp:p.length≤1048576)(H:AHeap):bH Tryz.prog 154 [.sl b (l.map ndA),.str p] H (aA6 (qD l p)):=by
 refine fO Tryz.func154 ?_;have hs:=aBb p hp;unfold qD;cases hn:bM p with
 |none=>
  simp only[gY,hn]at hs;repeat' first|(refine gS ?_;simp only[go_sem])|refine gA ?_|(refine gD ?_ ?_<;>intro h<;>try exact aA h)|fail
  exact cL (.refl _)
 |some ns=>
  simp only[gY,hn]at hs;have hf:=vP b (decide (p=[47])) l ns hl;simp only[aA6]at hf;repeat' first|(refine gS ?_;simp only[go_sem])|refine gA ?_|(refine gD ?_ ?_<;>intro h<;>try exact aA h)|fail
  exact cL (.refl _)
theorem aYx(b:Bool)(l:List Nd)(p:Txt)(hl:l.length≤1073741824)(hp:p.length≤1048576)(H:AHeap):bH Tryz.prog 150 [.sl b (l.map ndA),.str p] H (aOM (abvN l p)):=by
 refine fO Tryz.func150 ?_;have hs:=aBb p hp;unfold abvN;cases hn:bM p with
 |none=>
  simp only[gY,hn]at hs;repeat' first|(refine gS ?_;simp only[go_sem])|refine gA ?_|(refine gD ?_ ?_<;>intro h<;>try exact aA h)|fail
  exact cL (.refl _)
 |some ns=>
  simp only[gY,hn]at hs;cases ns with
  |nil=>
   repeat' first|(refine gS ?_;simp only[go_sem])|refine gA ?_|(refine gD ?_ ?_<;>intro h<;>try exact aA h)|fail
   exact cL (.refl _)
  |cons x xs=>
   have hlen:=nJ hn;rw[zAc]at hlen;have hw:IntKind.i64.wrap (((xs.length+1:Nat):Int)-1)=(xs.length:Int):=by rw[wI];omega
   have hb:((0:Int)≤(xs.length:Int)∧(xs.length:Int)≤((xs.length+1:Nat):Int))=True:=zAC (by omega)
   have hd:decide (((xs.length+1:Nat):Int)=0)=false:=dF;have hgd:(AV.str x::xs.map AV.str).getD xs.length .top=.str ((x::xs).getLast (by simp)):=by
    rw[←zAw (f:=AV.str),aN AV.str (by simp),List.getLast_eq_getElem];simp
   have hlt:xs.length<xs.length+1:=zA8 _;have ht:List.take xs.length (AV.str x::xs.map AV.str)=((x::xs).dropLast).map AV.str:=by
    rw[←zAw (f:=AV.str),←zBG,zBV];rfl
   obtain⟨⟨dir,e⟩,hr⟩:∃r,findN l (x::xs).dropLast=r:=⟨_,rfl⟩;have hf:=fun f=>vP b f l (x::xs).dropLast hl
   simp only[aA6,hr]at hf;have hdd:=aA0 dir;by_cases he:e=0
   ·subst he;simp only[zBc];cases hdi:dirI dir with
    |true=>
     rw[hdi]at hdd;repeat' first|((first|refine gQ (hf _) ?_|refine gS ?_);simp only[go_sem,hw,hb,hd,hgd,hlt,ht])|refine gA ?_|(refine gD ?_ ?_<;>intro h<;>try exact aA h)|fail
     exact cL (.of (by simp[aOM,hr,hdi]))
    |false=>
     rw[hdi]at hdd;repeat' first|((first|refine gQ (hf _) ?_|refine gS ?_);simp only[go_sem,hw,hb,hd,hgd,hlt,ht])|refine gA ?_|(refine gD ?_ ?_<;>intro h<;>try exact aA h)|fail
     exact cL (.of (by simp[aOM,hr,hdi]))
   ·have he':decide (e=0)=false:=zAg he;simp only[zAe he];repeat' first|((first|refine gQ (hf _) ?_|refine gS ?_);simp only[go_sem,hw,hb,hd,hgd,hlt,ht,he'])|refine gA ?_|(refine gD ?_ ?_<;>intro h<;>try exact aA h)|fail
    exact cL (.of (by simp[aOM,hr,he]))
theorem aWO(m:Mdl)(n:Int)(i:Nat)(cs:List AV)(hm:m.snaps.length≤1000000)(H:AHeap)(hh:hget H i=.cells 0 (.sl false (m.log.entries.map iB)::.sl false (m.log.nodes.map ndA)::.int .i64 m.seen::.int .i64 m.rep::.sl false (m.snaps.map iG)::cs)):
  bH Tryz.prog 155 [.ref i 0 0,.int .i64 n] H (aSA (rQ m n)):=by
 refine fO Tryz.func155 ?_;unfold rQ;by_cases h0:n=0
 ·have hd:decide (n=0)=true:=zAj h0;rw[zAl h0];repeat' first|(refine gS ?_;simp only[go_sem,hh,hd])|refine gA ?_|(refine gD ?_ ?_<;>intro h<;>try exact aA h)|fail
  exact cL (.refl _)
 have hd:decide (n=0)=false:=zAg h0;rw[zAe h0];have h1:=aG hh trivial;repeat' first|(refine gS ?_;simp only[go_sem,hh,hd])|refine gA ?_|(refine gD ?_ ?_<;>intro h<;>try exact aA h)|fail
 refine aI (ι:=Nat×AHeap) (fun s=>[(1,.int .i64 n),(20,.sl false (m.snaps.map iG)),(21,.int .i64 m.snaps.length),(22,.int .i64 s.1)]) (fun s=>H++s.2) (fun s=>s.1≤m.snaps.length∧∀q (hk:q<s.1) (hk2:q<m.snaps.length),decide (m.snaps[q].n=n)=false) (fun s=>m.snaps.length-s.1) (0,[]) ⟨zAo _,fun q hk=>by simp only at hk;omega⟩ ?_ (zAd _).symm ?_
 ·simp[go_sem]
 rintro⟨k,L⟩ ⟨hk,hno⟩;simp only at hk hno ⊢;generalize hG:H++L=G;by_cases hlt:k<m.snaps.length
 ·have hp:=aN iG hlt;repeat' first|(refine gS ?_;simp only[go_sem,hp,iG,hlt])|refine gA ?_|(refine gD ?_ ?_<;>intro h<;>try exact aA h)|fail
  ·have hf:m.snaps.find? (fun s=>decide (s.n=n))=some m.snaps[k]:=by
    rw[List.find?_eq_some_iff_getElem];exact⟨by assumption,k,hlt,rfl,fun q hq=>by rw[hno q hq (by omega)];rfl⟩
   rw[hf];exact aJQ hG (by simp only[go_sem]) (.refl _)
  ·refine⟨(k+1,L++[.cells 0 (iG m.snaps[k]).cells]),⟨hlt,fun q hq hq2=>?_⟩,by simp only;omega,zAx _ (aS hlt (by omega)),?_⟩
   ·by_cases e:q=k
    ·subst e;simpa using h
    ·have:=hno q (by simp only at hq;omega) hq2;simpa using this
   ·show G++[.cells 0 (iG m.snaps[k]).cells]=_;rw[←hG,zAr]
 ·have hke:k=m.snaps.length:=by omega
  have hf:m.snaps.find? (fun s=>decide (s.n=n))=none:=by
   rw[zBi];intro s hs;obtain⟨q,hq,rfl⟩:=List.mem_iff_getElem.1 hs;rw[hno q (by omega) hq];simp
  rw[hf];repeat' first|(refine gS ?_;simp only[go_sem,hlt])|refine gA ?_|(refine gD ?_ ?_<;>intro h<;>try exact aA h)|fail
  exact oF hG (by simp only[go_sem]) (.refl _)
theorem aON(j:Nat)(c:Cal)(d:Dsk)(i:Nat)(hm:d.m.log.entries.length≤1000000)(H:AHeap)(hh:hget H i=.cells 0 (dkC j c d)):
  bH Tryz.prog 151 [.ref i 0 0] H (.tup [stA (nextD d.m).1,.int .i64 (nextD d.m).2]):=by
 refine fO Tryz.func151 ?_;have h1:=aG hh trivial;have hn:=aSn d.m.seen d.m.rep;simp only[dkC]at hh h1;unfold nextD;unfold aKW at hn;cases ho:oJ d.m.seen d.m.rep with
 |false=>
  rw[ho,zAe (by simp)]at hn
  rw[zAl rfl];repeat' first|((first|refine mx [1] qL ?_|refine gS ?_);simp only[go_sem,hh,h1])|refine gA ?_|(refine gD ?_ ?_<;>intro h<;>try exact aA h)|fail
  exact dY (.refl _)
 |true=>
  rw[ho,zAl rfl]at hn;rw[zAe (by simp)]
  by_cases hl:(200:Int)≤(d.m.log.entries.length:Int)
  ·have hd:decide ((200:Int)≤(d.m.log.entries.length:Int))=true:=zAj hl;rw[zAl hl];repeat' first|((first|refine mx [1] qL ?_|refine gS ?_);simp only[go_sem,hh,h1,hd])|refine gA ?_|(refine gD ?_ ?_<;>intro h<;>try exact aA h)|fail
   exact dY (.refl _)
  ·have hd:decide ((200:Int)≤(d.m.log.entries.length:Int))=false:=zAg hl;rw[zAe hl];repeat' first|((first|refine mx [1] qL ?_|refine gS ?_);simp only[go_sem,hh,h1,hd])|refine gA ?_|(refine gD ?_ ?_<;>intro h<;>try exact aA h)|fail
   exact dY (.refl _)
theorem aLp{i j:Nat}{c:Cal}{d:Dsk}{G:AHeap}(hb:KB i j c d G)(hs:DS d.m){o:Opn}(ho:OpS o)(hl:d.ops.length≤1000000):
  ACalls Tryz.prog 173 [.ref i 0 0,opA o] G (fun v H'=>v=.int .i64 (rO d o).1∧H'=oL G i j c (rO d o).2):=by
 refine aO Tryz.func173 ?_;have hm:=aSe false false d.m.log o ho hs.ops hs.nodes hs.ents;have r0:=hb.b1;have r1:=aG hb.b1 trivial;have r2:=aG hb.b2 trivial;have hne:=hb.ne;have hl1:=hb.lt1;have hl2:=hb.lt2;have r3:=hb.r3;have r4:=hb.r4;have hnl:=aC G i;simp only[dkC]at r0 r1;have qs:=tZ hl1 hl2 hne rfl;simp only[aSd,lgA,lgF,opA]at hm;unfold rO;by_cases he:xP d.m.log o=0
 ·rw[zAl he];rw[he]at hm;have hq1:(∀e,e=AV.agg [.int .i64 o.at_.c,.int .i64 o.at_.r,.int .i64 o.kind,.int .i64 o.node,.int .i64 o.parent,.str o.name,.str o.data]→e.cells.length=7)=True:=zAC (fun e he=>by rw[he];rfl)
  have hl8:((d.ops.length+1) * 72≤140737488355328)=True:=zAC (by omega)
  have hfl:=aU (enc:=opA) (s:=7) (fun _=>rfl) d.ops
  repeat' first|((first|refine mx [1] uQ ?_|refine mx [5] uR ?_|refine gS ?_);simp only[go_sem,opA,r0,r1,r2,r3,r4,hnl,qs,aC,hq1,hl8,hfl])|refine gA ?_|(refine gD ?_ ?_<;>intro h<;>try exact aA h)|fail
  refine qK hb rfl ?_;unfold oL dkC;simp[cB,fG,aC5,opA,AV.cells]
 ·have hd:decide (xP d.m.log o=0)=false:=zAg he;rw[zAe he];repeat' first|((first|refine mx [1] uQ ?_|refine mx [5] uR ?_|refine gS ?_);simp only[go_sem,opA,r0,r1,r2,r3,r4,hnl,qs,aC,hd])|refine gA ?_|(refine gD ?_ ?_<;>intro h<;>try exact aA h)|fail
  exact qK hb rfl hb.own.symm
theorem aWP{i j:Nat}{c:Cal}{d:Dsk}{G:AHeap}(hb:KB i j c d G)(hs:DS d.m){o:Opn}(ho:OpS o)(hl:d.ops.length≤1000000):
  ACalls Tryz.prog 153 [.ref i 0 0,opA o] G (fun v H'=>v=.int .i64 (aBe d o).1∧H'=oL G i j c (aBe d o).2):=by
 refine aO Tryz.func153 ?_;have r0:=hb.b1;have r1:=aG hb.b1 trivial;have r2:=aG hb.b2 trivial;have hne:=hb.ne;have hl1:=hb.lt1;have hl2:=hb.lt2;have r3:=hb.r3;have r4:=hb.r4;have hnl:=aC G i;simp only[dkC]at r0 r1;have qs:=tZ hl1 hl2 hne rfl;unfold aBe;obtain⟨s,e,hn⟩:∃s e,nextD d.m=(s,e):=⟨_,_,rfl⟩;simp only[hn];have hnx:=fun L=>aON j c d i (by have:=hs.ents;omega) (G++L) (hb.app L).b1
 simp only[hn,stA]at hnx;by_cases he:e=0
 ·subst he;rw[zAl rfl];repeat' first|((first|refine aZ (hnx _) (cO) ?_|refine bA (hnx _) (cO) ?_|refine bB (fun _=>hnx _) (cO) ?_|refine gS ?_);simp only[go_sem,opA])|refine gA ?_|(refine gD ?_ ?_<;>intro h<;>try exact aA h)|fail
  obtain⟨L,hL⟩:∃L:AHeap,L=[.cells 0 [.int .i64 s.c,.int .i64 s.r,.int .i64 o.kind,.int .i64 o.node,.int .i64 o.parent,.str o.name,.str o.data],.cells 0 [.int .i64 s.c,.int .i64 s.r]]:=⟨_,rfl⟩;rw[←hL];refine aR (aLp (hb.app L) hs (o:={o with at_:=s}) ho hl) (cO) ?_
  rintro v H' ⟨rfl,rfl⟩;rw[hb.happ];obtain⟨⟨x,d1⟩,hr⟩:∃r,rO d {o with at_:=s}=r:=⟨_,rfl⟩
  rw[hr];simp only;obtain⟨G1,hG1⟩:∃G1,oL G i j c d1=G1:=⟨_,rfl⟩;have hb1:KB i j c d1 G1:=hG1▸hb.put d1;have hGl:G1.length=G.length:=by rw[←hG1,wH]
  have htw:∀d2,oL G1 i j c d2=oL G i j c d2:=fun d2=>by rw[←hG1,hb.twice]
  rw[hG1,hL];have r0:=hb1.b1;have r1:=aG hb1.b1 trivial;have r2:=aG hb1.b2 trivial;have hne:=hb1.ne;have hl1:=hb1.lt1;have hl2:=hb1.lt2;have r3:=hb1.r3;have r4:=hb1.r4;have hnl:=hGl;simp only[dkC]at r0 r1;have qs:=tZ hl1 hl2 hne hGl;simp only[go_sem];by_cases hx:x=0
  ·subst hx;rw[zAl rfl];repeat' first|(refine gS ?_;simp only[go_sem,r0,r1,r2,r3,r4,hnl,qs,aC])|refine gA ?_|(refine gD ?_ ?_<;>intro h<;>try exact aA h)|fail
   refine qK hb rfl ?_;rw[←htw];exact hb1.one (d':={d1 with m:={d1.m with seen:=s.c}}) rfl
  ·have hd:decide (x=0)=false:=zAg hx;rw[zAe hx];repeat' first|(refine gS ?_;simp only[go_sem,r0,r1,r2,r3,r4,hnl,qs,aC,hd])|refine gA ?_|(refine gD ?_ ?_<;>intro h<;>try exact aA h)|fail
   exact qK hb rfl hG1.symm
 ·rw[zAe he];have hd:decide (e=0)=false:=zAg he;repeat' first|((first|refine aZ (hnx _) (cO) ?_|refine bA (hnx _) (cO) ?_|refine bB (fun _=>hnx _) (cO) ?_|refine gS ?_);simp only[go_sem,opA,hd])|refine gA ?_|(refine gD ?_ ?_<;>intro h<;>try exact aA h)|fail
  exact qK hb rfl hb.own.symm
end
end Go.Proofs.YtennnelammaapaaGreatDoor

/- What the functions of this seat answer (31 of 40). No condition. -/
import Derived.Test.YtigedpfipifefaaGreatDoorWorkAZ
import Derived.Test.YtigedpfipifefaaGreatDoorWorkBB
set_option linter.unusedSimpArgs false
set_option linter.unusedVariables false
set_option maxRecDepth 100000
set_option maxHeartbeats 16000000
namespace Go.Proofs.YtigedpfipifefaaGreatDoor
def aAw:Ord:=⟨0,gR,0,[]⟩
def oP(o:Option (Ord×Txt)):AV:=match o with
 |none=>.tup [eH aAw,.bool false]
 |some (o,_)=>.tup [eH o,.bool true]
theorem yJ{b r:Txt}{c:Cal}(h:dP b=some (c,r)):c.path.length≤b.length∧c.to.length≤b.length∧c.data.length≤b.length:=by
 unfold dP at h;simp only[zAQ,zBc]at h;obtain⟨k,r0,h0,p,hp,a,r1,h1,t,r2,h2,d,r3,h3,n,r4,h4,h5⟩:=h;have e0:=bR h0;have e1:=eC h1;have e2:=eC h2;have e3:=eC h3;split at h5
 ·cases h5;simp only;omega
 ·cases h5
theorem aAx:∀(n k:Nat) (b:Txt),b.length≤n→b.length≤k→b.length≤1048576→eI k b=eI b.length b:=by
 intro n;induction n with
 |zero=>intro k b h _ _;rw[zAu (by omega:b.length=0)];cases k<;>rfl
 |succ n ih=>
  intro k b h hk hb;by_cases hn:b=[]
  ·subst hn;cases k<;>rfl
  have:=zAR.2 hn;obtain⟨k,rfl⟩:∃m,k=m+1:=⟨k-1,by omega⟩
  obtain⟨m,hm⟩:∃m,b.length=m+1:=⟨b.length-1,by omega⟩
  rw[hm,eI,eI,zAk hn,zAk hn];cases ht:eM b with
  |none=>rfl
  |some p=>
   obtain⟨o,r⟩:=p;have:=(gX ht (by omega)).1
   simp only[zAn];rw[ih k r (by omega) (by omega) (by omega),ih m r (by omega) (by omega) (by omega)]
theorem aAy{b:Txt}(h:b≠[])(hb:b.length≤1048576):eI b.length b=(eM b).bind fun x=>(eI x.2.length x.2).map (x.1::·):=by
 have:=zAR.2 h;obtain⟨m,hm⟩:∃m,b.length=m+1:=⟨b.length-1,by omega⟩
 rw[hm,eI,zAk h];cases ht:eM b with
 |none=>rfl
 |some p=>
  obtain⟨o,r⟩:=p;have:=(gX ht (by omega)).1
  simp only[zAn];rw[aAx m m r (by omega) (by omega) (by omega)]
theorem yK{b r:Txt}{o:Ord}(h:eM b=some (o,r))(hb:b.length≤1048576):OS o:=by
 obtain⟨-,hm,hc⟩:=gX h (by omega)
 have key:o.call.path.length≤1048576∧o.call.to.length≤1048576∧o.call.data.length≤1048576∧o.picks.length≤1048576:=by
  unfold eM at h;simp only[zAQ,zBc]at h;obtain⟨k,r0,h0,o',r',h1,h2⟩:=h;have e0:=bR h0;split at h2
  ·cases h2;split at h1
   ·simp only[zAy,zBc,zBE]at h1;obtain⟨x,r1,h3,rfl,rfl⟩:=h1;obtain⟨a1,a2,a3⟩:=yJ h3;exact⟨by simp only;omega,by simp only;omega,by simp only;omega,by simp⟩
   split at h1
   ·simp only[zAy,zBc,zBE]at h1;obtain⟨x,r1,h3,rfl,rfl⟩:=h1;exact⟨by simp[gR],by simp[gR],by simp[gR],by simp⟩
   split at h1
   ·simp only[zAy,zBc,zBE]at h1;obtain⟨x,r1,h3,rfl,rfl⟩:=h1;have:=oK h3;exact⟨by simp[gR],by simp[gR],by simp[gR],by simp only;omega⟩
   ·cases h1;exact⟨by simp[gR],by simp[gR],by simp[gR],by simp⟩
  ·cases h2
 exact⟨key.1,key.2.1,key.2.2.1,hm.call.n,hm.pick,key.2.2.2⟩
theorem aJO{i:Nat}{x:AV}{r:Txt}{H L:AHeap}(hx:Cl H.length x){v w:AV}(hv:Frz H.length (aA H i (.cells 0 [x,.str r])++L) v w){P:Txt→Prop}(hP:P r):
  ∃H1 L' y,aA H i (.cells 0 [x,.str r])++L=H1++L'∧H1.length=H.length∧(∀(k:Nat) (b:ABlk),H1[k]?=some b→H[k]?=some b∨ClB H.length b)∧Frz H.length (aA H i (.cells 0 [x,.str r])++L) v y∧(y=w∧∃r,H1=aA H i (.cells 0 [x,.str r])∧P r):=
 ⟨_,L,_,rfl,bF _ _ _,iA fun y hy=>by
  simp only[zAC,zBl,or_false]at hy;rcases hy with rfl|rfl
  ·exact hx
  ·exact .str _,hv,rfl,r,rfl,hP⟩
def sA(o:Option (Int×Int×List Ord)):AV:=match o with
 |none=>.tup [.int .i64 0,.int .i64 0,.sl true [],.int .i64 240]
 |some (r,s,l)=>.tup [.int .i64 r,.int .i64 s,.sl false (l.map eH),.int .i64 0]
theorem aAz(b:Txt)(hb:b.length≤1048576)(i:Nat)(x:AV){H:AHeap}(hh:hget H i=.cells 0 [x,.str b]):
  ACalls Tryz.prog 22 [.ref i 0 0] H (fun v H'=>match bK b with
   |none=>v=.tup [.int .i64 0,.bool false]∧H'=H
   |some (n,r)=>v=.tup [.int .i64 n,.bool true]∧H'=aA H i (.cells 0 [x,.str r])):=by
 refine aW Tryz.func22 ?_;have hv:=nH b (by omega)
 unfold pD at hv;cases h:bK b with
 |none=>
  simp only[h]at hv;repeat' first|(refine gS ?_;simp only[go_sem,hh])|refine gA ?_|(refine gD ?_ ?_<;>intro h<;>try exact aD h)|fail
 |some p=>
  obtain⟨n,r⟩:=p;simp only[h]at hv;repeat' first|(refine gS ?_;simp only[go_sem,hh])|refine gA ?_|(refine gD ?_ ?_<;>intro h<;>try exact aD h)|fail
theorem aGB(b:Txt)(hb:b.length≤1048576)(i:Nat)(x:AV){H:AHeap}(hx:Cl H.length x)(hh:hget H i=.cells 0 [x,.str b]):
  ACalls Tryz.prog 23 [.ref i 0 0] H (fun v H'=>v=oP (eM b)∧∃r,H'=aA H i (.cells 0 [x,.str r])∧∀o r',eM b=some (o,r')→r=r'):=by
 refine aO Tryz.func23 ?_;have hi:=bC hh trivial;have q1:=aHN hi;have s1:=fun L X=>bQ hi L X
 have fin:∀(r:Txt) (L:AHeap) (o:Option (Ord×Txt)),(∀o1 r',o=some (o1,r')→r=r')→eM b=o→
   ∃H1 L' y,aA H i (.cells 0 [x,.str r])++L=H1++L'∧H1.length=H.length∧(∀(k:Nat) (b:ABlk),H1[k]?=some b→H[k]?=some b∨ClB H.length b)∧Frz H.length (aA H i (.cells 0 [x,.str r])++L) (oP o) y∧
    (y=oP (eM b)∧∃r,H1=aA H i (.cells 0 [x,.str r])∧∀o r',eM b=some (o,r')→r=r'):=fun r L o h1 h2=>by
  subst h2;exact aJO hx (Sim.frz (.refl _) (by cases eM b<;>simp only[oP,go_sem])) h1
 repeat' first|(refine gS ?_;simp only[go_sem])|refine gA ?_|(refine gD ?_ ?_<;>intro h<;>try exact aD h)|fail
 refine aG (aAz b hb i x (aK hh trivial _)) cO ?_;intro v H';cases h0:bK b with
 |none=>
  rintro⟨rfl,rfl⟩;have hN:eM b=none:=by unfold eM;rw[h0];rfl
  simp only[go_sem];repeat' first|(refine gS ?_;simp only[go_sem])|refine gA ?_|(refine gD ?_ ?_<;>intro h<;>try exact aD h)|fail
  have:=fin b [.cells 0 (eH aAw).cells,.cells 0 (eH aAw).cells] none (fun _ _ h=>by cases h) hN
  rw[eL hh trivial]at this;exact this
 |some p=>
  obtain⟨kd,r0⟩:=p;have e0:=bR h0;have hT:eM b=(if kd=1 then(dP r0).map fun x=>((⟨kd,x.1,0,[]⟩:Ord),x.2)else if kd=2 then(bK r0).map fun x=>(⟨kd,gR,x.1,[]⟩,x.2)else if kd=4 then(eZ r0).map fun x=>(⟨kd,gR,0,x.1⟩,x.2)else some (⟨kd,gR,0,[]⟩,r0)).bind fun x=>
   if bZ x.1=true then some x else none:=by unfold eM;rw[h0];rfl
  rintro⟨rfl,rfl⟩;rw[s1];simp only[go_sem];by_cases k1:kd=1
  ·subst k1;have hc:=aGv r0 (by omega)
   unfold aAs at hc;cases h1:dP r0 with
   |none=>
    rw[h1]at hT;simp only[h1,pB,gR]at hc;repeat' first|(refine gS ?_;simp only[go_sem,q1])|refine gA ?_|(refine gD ?_ ?_<;>intro h<;>try exact aD h)|fail
    exact fin [] _ none (fun _ _ h=>by cases h) hT
   |some p=>
    obtain⟨c,r1⟩:=p;rw[h1]at hT;simp only[h1,pB]at hc;obtain⟨l1,l2,l3⟩:=yJ h1;have hk:=fZ ⟨1,c,0,[]⟩ (by simp only;omega) (by simp only;omega)
    simp only[eH]at hk;cases hck:bZ ⟨1,c,0,[]⟩with
    |true=>
     rw[hck]at hk;repeat' first|(refine gS ?_;simp only[go_sem,q1])|refine gA ?_|(refine gD ?_ ?_<;>intro h<;>try exact aD h)|fail
     exact fin r1 _ (some (⟨1,c,0,[]⟩,r1)) (fun _ _ h=>by cases h;rfl) (by rw[hT];simp[hck])
    |false=>
     rw[hck]at hk;repeat' first|(refine gS ?_;simp only[go_sem,q1])|refine gA ?_|(refine gD ?_ ?_<;>intro h<;>try exact aD h)|fail
     exact fin r1 _ none (fun _ _ h=>by cases h) (by rw[hT];simp[hck])
  rw[zAk k1]at hT;have d1:decide (kd=1)=false:=zAh k1;by_cases k2:kd=2
  ·subst k2;have hc:=nH r0 (by omega)
   unfold pD at hc;cases h1:bK r0 with
   |none=>
    rw[h1]at hT;simp only[h1]at hc;repeat' first|(refine gS ?_;simp only[go_sem,q1])|refine gA ?_|(refine gD ?_ ?_<;>intro h<;>try exact aD h)|fail
    exact fin [] _ none (fun _ _ h=>by cases h) hT
   |some p=>
    obtain⟨n,r1⟩:=p;rw[h1]at hT;simp only[h1]at hc;have hk:=fZ ⟨2,gR,n,[]⟩ (by simp[gR]) (by simp[gR])
    simp only[eH,gR]at hk;cases hck:bZ ⟨2,gR,n,[]⟩with
    |true=>
     rw[show bZ ⟨2,⟨0,[],[],[],0⟩,n,[]⟩=true from hck]at hk
     repeat' first|(refine gS ?_;simp only[go_sem,q1])|refine gA ?_|(refine gD ?_ ?_<;>intro h<;>try exact aD h)|fail
     exact fin r1 _ (some (⟨2,gR,n,[]⟩,r1)) (fun _ _ h=>by cases h;rfl) (by rw[hT];simp[hck])
    |false=>
     rw[show bZ ⟨2,⟨0,[],[],[],0⟩,n,[]⟩=false from hck]at hk
     repeat' first|(refine gS ?_;simp only[go_sem,q1])|refine gA ?_|(refine gD ?_ ?_<;>intro h<;>try exact aD h)|fail
     exact fin r1 _ none (fun _ _ h=>by cases h) (by rw[hT];simp[hck])
  rw[zAk k2]at hT;have d2:decide (kd=2)=false:=zAh k2;by_cases k4:kd=4
  ·subst k4;have hc:=vI r0 (by omega)
   unfold xP at hc;cases h1:eZ r0 with
   |none=>
    rw[h1]at hT;simp only[h1]at hc;repeat' first|(refine gS ?_;simp only[go_sem,q1])|refine gA ?_|(refine gD ?_ ?_<;>intro h<;>try exact aD h)|fail
    exact fin [] _ none (fun _ _ h=>by cases h) hT
   |some p=>
    obtain⟨n,r1⟩:=p;rw[h1]at hT;simp only[h1]at hc;have hk:=fZ ⟨4,gR,0,n⟩ (by simp[gR]) (by simp[gR])
    simp only[eH,gR]at hk;cases hck:bZ ⟨4,gR,0,n⟩with
    |true=>
     rw[show bZ ⟨4,⟨0,[],[],[],0⟩,0,n⟩=true from hck]at hk
     repeat' first|(refine gS ?_;simp only[go_sem,q1])|refine gA ?_|(refine gD ?_ ?_<;>intro h<;>try exact aD h)|fail
     exact fin r1 _ (some (⟨4,gR,0,n⟩,r1)) (fun _ _ h=>by cases h;rfl) (by rw[hT];simp[hck])
    |false=>
     rw[show bZ ⟨4,⟨0,[],[],[],0⟩,0,n⟩=false from hck]at hk
     repeat' first|(refine gS ?_;simp only[go_sem,q1])|refine gA ?_|(refine gD ?_ ?_<;>intro h<;>try exact aD h)|fail
     exact fin r1 _ none (fun _ _ h=>by cases h) (by rw[hT];simp[hck])
  rw[zAk k4]at hT;have d4:decide (kd=4)=false:=zAh k4;have hk:=fZ ⟨kd,gR,0,[]⟩ (by simp[gR]) (by simp[gR])
  simp only[eH,gR]at hk;cases hck:bZ ⟨kd,gR,0,[]⟩with
  |true=>
   rw[show bZ ⟨kd,⟨0,[],[],[],0⟩,0,[]⟩=true from hck]at hk
   repeat' first|(refine gS ?_;simp only[go_sem,q1,d1,d2,d4])|refine gA ?_|(refine gD ?_ ?_<;>intro h<;>try exact aD h)|fail
   exact fin r0 _ (some (⟨kd,gR,0,[]⟩,r0)) (fun _ _ h=>by cases h;rfl) (by rw[hT];simp[hck])
  |false=>
   rw[show bZ ⟨kd,⟨0,[],[],[],0⟩,0,[]⟩=false from hck]at hk
   repeat' first|(refine gS ?_;simp only[go_sem,q1,d1,d2,d4])|refine gA ?_|(refine gD ?_ ?_<;>intro h<;>try exact aD h)|fail
   exact fin r0 _ none (fun _ _ h=>by cases h) (by rw[hT];simp[hck])
theorem nO(b:Txt)(hb:b.length≤1048576)(H:AHeap):bJ Tryz.prog 11 [.str b] H (sA (cW b)):=by
 refine fO Tryz.func11 ?_;have hnone:∀G,bJ Tryz.prog 21 [] G (sA none):=fun G=>by
  refine fO Tryz.func21 ?_;repeat' first|(refine gS ?_;simp only[go_sem])|refine gA ?_|(refine gD ?_ ?_<;>intro h<;>try exact aD h)|fail
  exact cU (.of rfl)
 unfold sA at hnone;iterate 6 first|(refine gS ?_;simp only[go_sem])|refine gA ?_|(refine gD ?_ ?_<;>intro h<;>try exact aD h)|fail
 refine jG (v:=0) (cs:=[.sl true [],.str b]) H.length 0 1 (by simp only[go_sem]) rfl ?_
 simp only[go_sem];have hk0:hget (H++[.cells 0 [.osl 1 (H.length+1) 1 0 0 0,.str b],.cells 1 []]) H.length=.cells 0 [.osl 1 (H.length+1) 1 0 0 0,.str b]:=by simp only[go_sem]
 repeat' first|(refine gS ?_;simp only[go_sem])|refine gA ?_|(refine gD ?_ ?_<;>intro h<;>try exact aD h)|fail
 refine aG (aAz b hb H.length _ hk0) cO ?_;intro v H';cases h0:bK b with
 |none=>
  have hN:cW b=none:=by unfold cW;rw[h0];rfl
  rintro⟨rfl,rfl⟩;rw[hN];simp only[go_sem];repeat' first|((first|refine cS (hnone) (cO) ?_|refine dB (hnone) (cO) ?_|refine dE (fun _=>hnone) (cO) ?_|refine gS ?_);simp only[go_sem])|refine gA ?_|(refine gD ?_ ?_<;>intro h<;>try exact aD h)|fail
  exact dY (.refl _)
 |some p=>
  obtain⟨r,b1⟩:=p;have e1:=bR h0;rintro⟨rfl,rfl⟩;simp only[go_sem];repeat' first|(refine gS ?_;simp only[go_sem])|refine gA ?_|(refine gD ?_ ?_<;>intro h<;>try exact aD h)|fail
  refine aG (aAz b1 (by omega) H.length (.osl 1 (H.length+1) 1 0 0 0) (by simp only[go_sem])) cO ?_
  intro v H';cases h1:bK b1 with
  |none=>
   have hN:cW b=none:=by unfold cW;rw[h0];simp only[zAn,h1];rfl
   rintro⟨rfl,rfl⟩;rw[hN];simp only[go_sem];repeat' first|((first|refine cS (hnone) (cO) ?_|refine dB (hnone) (cO) ?_|refine dE (fun _=>hnone) (cO) ?_|refine gS ?_);simp only[go_sem])|refine gA ?_|(refine gD ?_ ?_<;>intro h<;>try exact aD h)|fail
   exact dY (.refl _)
  |some p=>
   obtain⟨s,b2⟩:=p;have e2:=bR h1;have mr:=jK h0;have ms:=jK h1;have hS:cW b=(eI b2.length b2).bind fun l=>if eD r s l=some b then some (r,s,l)else none:=by unfold cW;rw[h0];simp only[zAn,h1]
   rintro⟨rfl,rfl⟩;simp only[go_sem];repeat' first|(refine gS ?_;simp only[go_sem])|refine gA ?_|(refine gD ?_ ?_<;>intro h<;>try exact aD h)|fail
   refine aAQ 11 8 rfl ?_;obtain⟨x,hx⟩:∃x,x=AV.osl 1 (H.length+1) 1 0 0 0:=⟨_,rfl⟩;refine dU (ι:=List Ord×AHeap) (fun y=>[(0,.str b),(6,.func (.func 21) [] []),(7,.ref H.length 0 0),(8,.int .i64 r),(10,.int .i64 s),(11,.osl 8 (H.length+2) (y.1.length+1) 0 y.1.length y.1.length)]) (fun y=>H++(.cells 0 [x,.str []]::.cells 1 []::.cells (y.1.length+1) (flA eH y.1)::y.2))
    (fun y=>y.1.length≤b.length∧(∀o∈y.1,OS o)∧eI b2.length b2=some y.1) ?_ ?_
   ·refine aH (ι:=List Ord×Txt×AHeap) (fun y=>[(0,.str b),(6,.func (.func 21) [] []),(7,.ref H.length 0 0),(8,.int .i64 r),(10,.int .i64 s),(11,.osl 8 (H.length+2) (y.1.length+1) 0 y.1.length y.1.length)]) (fun y=>H++(.cells 0 [x,.str y.2.1]::.cells 1 []::.cells (y.1.length+1) (flA eH y.1)::y.2.2))
     (fun y=>y.1.length+y.2.1.length≤b2.length∧(∀o∈y.1,OS o)∧eI b2.length b2=(eI y.2.1.length y.2.1).map (y.1++·)) (fun y=>y.2.1.length) ([],b2,[]) ⟨by simp,by simp,by simp⟩ ?_ (by rw[hx];simp only[go_sem];rfl) ?_
    ·simp[go_sem]
    rintro⟨acc,rest,M⟩ ⟨hl,ho,hr⟩;simp only at hl ho hr ⊢;by_cases hn:rest=[]
    ·subst hn;repeat' first|(refine gS ?_;simp only[go_sem])|refine gA ?_|(refine gD ?_ ?_<;>intro h<;>try exact aD h)|fail
     exact⟨(acc,M),⟨by simp at hl ⊢;omega,ho,by rw[hr];simp[eI]⟩,rfl,rfl⟩
    ·have hd:decide (rest=[])=false:=zAh hn;repeat' first|(refine gS ?_;simp only[go_sem,hd])|refine gA ?_|(refine gD ?_ ?_<;>intro h<;>try exact aD h)|fail
     refine aG (aGB rest (by omega) H.length x (by rw[hx];exact .osl _ _ _ _ _ _ (by simp)) (by simp only[go_sem])) cO ?_
     rintro v H' ⟨rfl,r',rfl,hr'⟩;rw[aAy hn (by omega)]at hr
     have m1:∀x:ABlk,(M++[x]).getD M.length .gone=x:=fun x=>by simp
     have m2:∀x y:ABlk,(M++[x]).set M.length y=M++[y]:=fun x y=>by simp
     cases ht:eM rest with
     |none=>
      have hN:cW b=none:=by rw[hS,hr,ht];rfl
      rw[hN];simp only[go_sem,oP,eH,aAw,gR];repeat' first|((first|refine cS (hnone) (cO) ?_|refine dB (hnone) (cO) ?_|refine dE (fun _=>hnone) (cO) ?_|refine gS ?_);simp only[go_sem,m1,m2])|refine gA ?_|(refine gD ?_ ?_<;>intro h<;>try exact aD h)|fail
      exact dY (.refl _)
     |some p=>
      obtain⟨o,r2⟩:=p;obtain rfl:=hr' _ _ ht;have hl2:=(gX ht (by omega)).1
      have ho2:=yK ht (by omega)
      rw[ht]at hr;have hq1:(∀e,e=AV.agg [.int .i64 o.kind,.int .i64 o.call.kind,.str o.call.path,.str o.call.to,.str o.call.data,.int .i64 o.call.n,.int .i64 o.pick,.str o.picks]→e.cells.length=8)=True:=zBf (fun e he=>by rw[he];rfl)
      have hl8:((acc.length+1) * 96≤140737488355328)=True:=zBf (by omega)
      have hfl:=lI (enc:=eH) (s:=8) (fun _=>rfl) acc
      simp only[go_sem,oP,eH];repeat' first|(refine gS ?_;simp only[go_sem,m1,m2,hq1,hl8,hfl])|refine gA ?_|(refine gD ?_ ?_<;>intro h<;>try exact aD h)|fail
      refine⟨(acc++[o],r',M++[.cells 0 (eH o).cells]),⟨by simp only[zAa,zBw];omega,fun q hq=>?_,?_⟩,hl2,?_⟩
      ·rcases zAM.1 hq with hq|hq
       ·exact ho q hq
       ·rw[zAq.1 hq];exact ho2
      ·rw[hr];simp only[zAn,Option.map_map];congr 1;funext l;simp
      ·simp only[zAa,zBw,nF,nG,aGd,zAj,eH,AV.cells];refine⟨?_,?_⟩<;>first|trivial|rfl
   ·rintro⟨acc,M⟩ ⟨hl,ho,hr⟩;simp only at hl ho hr ⊢;rw[hr]at hS;simp only[zAn]at hS;refine sZ [11] (acc.map eH) (v:=acc.length+1) (lc:=acc.length) (i:=H.length+2) (s:=8) (cs:=flA eH acc) (by intro t ht;simp only[zAq]at ht;subst ht;rw[zAs];simp only[go_sem]) (by simp only[go_sem]) (by omega) rfl (fun e he=>by(obtain⟨x, -,rfl⟩:=zAi.1 he;rfl)) ?_
    simp only[go_sem,zAV,zBr];repeat' first|(refine gS ?_;simp only[go_sem])|refine gA ?_|(refine gD ?_ ?_<;>intro h<;>try exact aD h)|fail
    have hw:WR H.length (H.length+1) 0 [] [.str []] (H++(.cells 0 [x,.str []]::.cells 1 []::.gone::M)):=⟨by omega,by rw[hx];simp only[go_sem];rfl,by simp only[go_sem];rfl⟩
    refine aG (uD false r s acc hw (by simp only[zAq,forall_eq];exact .str _) mr.2 ms.2 ho (by omega) (by simp)) cO ?_
    rintro v H' ⟨rfl,k,T,rfl,hT⟩;rw[lL]at hS;unfold lP wrC;cases hok:lC r s acc with
    |false=>
     simp[hok]at hS;rw[hS];simp only[go_sem];repeat' first|((first|refine cS (hnone) (cO) ?_|refine dB (hnone) (cO) ?_|refine dE (fun _=>hnone) (cO) ?_|refine gS ?_);simp only[go_sem])|refine gA ?_|(refine gD ?_ ?_<;>intro h<;>try exact aD h)|fail
     exact dY (.refl _)
    |true=>
     have e:=hT hok;rw[zAJ]at e;rw[hok,zAp rfl,←e]at hS;simp only[go_sem];by_cases hTb:T=b
     ·have hd:decide (T=b)=true:=zAg hTb;rw[zAp (by rw[hTb])]at hS
      rw[hS];repeat' first|((first|refine cS (hnone) (cO) ?_|refine dB (hnone) (cO) ?_|refine dE (fun _=>hnone) (cO) ?_|refine gS ?_);simp only[go_sem])|refine gA ?_|(refine gD ?_ ?_<;>intro h<;>try exact aD h)|fail
      all_goals first|(exfalso;revert h;simp[hTb];done)|exact dY (.refl _)
     ·have hd:decide (T=b)=false:=zAh hTb;rw[zAk (by simpa using hTb)]at hS
      rw[hS];repeat' first|((first|refine cS (hnone) (cO) ?_|refine dB (hnone) (cO) ?_|refine dE (fun _=>hnone) (cO) ?_|refine gS ?_);simp only[go_sem])|refine gA ?_|(refine gD ?_ ?_<;>intro h<;>try exact aD h)|fail
      all_goals first|(exfalso;revert h;simp[hTb];done)|exact dY (.refl _)
end Go.Proofs.YtigedpfipifefaaGreatDoor

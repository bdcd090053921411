/- The texts 30 of 53 beneath the rows of this seat (joined by program): the abstract machine, and what the functions answer. No condition. -/
import Derived.Test.YtolbeecicikoaaaGreatDoorWorkAS
import Derived.Test.YtolbeecicikoaaaGreatDoorWorkAV
import Derived.Test.YtolbeecicikoaaaGreatDoorWorkBA
set_option linter.unusedSimpArgs false
set_option linter.unusedVariables false
set_option linter.unusedSectionVars false
set_option maxRecDepth 100000
set_option maxHeartbeats 16000000
namespace Go.Proofs.YtolbeecicikoaaaGreatDoor
end Go.Proofs.YtolbeecicikoaaaGreatDoor
namespace Go.Proofs.YtolbeecicikoaaaGreatDoor
def iN:List Pl:=[.pure 0,.pure 0,.free,.free,.pure 0,.pure 0,.pure 0,.free,.free,.free,.eff [true,true,true,true,true],.free,.eff [false,false,false,false,false]]
def iO:List Pl:=[.pure 0,.pure 0,.free,.free,.pure 0,.pure 0,.pure 0,.free,.free,.eff [true,true,true,false,true],.pure 0,.eff [false,false,false,false,false]]
def iP:List Pl:=[.pure 0,.eff [false],.pure 1,.free,.eff [true],.eff [true],.pure 0,.eff [false,false],.free]
attribute [go_sem] iN iO iP
theorem aK7(b1 b2:Bool)(g:Lg)(hl:g.entries.length≤1000000000)(H:AHeap):ACalls Tryz.prog 88 [qT b1 b2 g] H
  (fun x H'=>x=.osl 7 (H.length+1) (g.entries.length+1) 0 g.entries.length g.entries.length∧H'=H++[.cells 0 [.sl b1 (g.entries.map dM),.sl b2 (g.nodes.map ndA)],.cells (g.entries.length+1) (((opsG g).map opA).flatMap AV.cells)]):=by
 refine aW Tryz.func88 ?_
 simp only[qT]
 repeat' first|(refine gS ?_;simp only[go_sem])|refine gA ?_|(refine gD (fun h=>?_) (fun h=>?_)<;>try exact aA h)|fail
 refine gI 3 7 rfl ?_
 refine aH (ι:=Nat) (fun i=>[(1,.ref H.length 0 0),(3,.osl 7 (H.length+1) (i+1) 0 i i),(4,.int .i64 i)]) (fun i=>H++[.cells 0 [.sl b1 (g.entries.map dM),.sl b2 (g.nodes.map ndA)],.cells (i+1) ((((opsG g).take i).map opA).flatMap AV.cells)])
  (fun i=>i≤g.entries.length) (fun i=>g.entries.length-i) 0 (zAn _) ?_ (by simp[zAu]) ?_
 ·simp[go_sem]
 ·intro i hi
  have hlo:(opsG g).length=g.entries.length:=zAj ..
  have hfl:=rR ((opsG g).take i)
  rw[zAy,hlo,Nat.min_eq_left hi]at hfl
  by_cases hlt:i<g.entries.length
  ·have hp:=aJ dM hlt
   have hli:decide ((i:Int)<(g.entries.length:Int))=true:=dT
   have htk:(opsG g).take (i+1)=(opsG g).take i++[g.entries[i].op]:=by
    rw[zAa (by omega)];congr 2;exact List.getElem_map _
   have ec:(((opsG g).take (i+1)).map opA).flatMap AV.cells=(((opsG g).take i).map opA).flatMap AV.cells++(opA g.entries[i].op).cells:=by
    rw[htk,zBa,zA0];simp
   repeat' first|(refine gS ?_;simp only[go_sem,hp,dM,hli,hfl])|refine gA ?_|(refine gD (fun h=>?_) (fun h=>?_)<;>try exact aA h)|fail
   refine⟨⟨fun e he=>by rw[he];rfl,by omega⟩,?_⟩
   repeat' first|(refine gS ?_;simp only[go_sem])|refine gA ?_|(refine gD (fun h=>?_) (fun h=>?_)<;>try exact aA h)|fail
   exact⟨i+1,hlt,by omega,⟨rfl,zAp _ (aK hlt (by omega))⟩,by rw[ec];rfl⟩
  ·have hie:i=g.entries.length:=by omega
   subst hie
   have hli:decide ((g.entries.length:Int)<(g.entries.length:Int))=false:=by simp
   rw[zBh (by omega)]
   repeat' first|(refine gS ?_;simp only[go_sem,hli])|refine gA ?_|(refine gD (fun h=>?_) (fun h=>?_)<;>try exact aA h)|fail
theorem aNO(b:Bool)(l:List Opn)(hS:∀o∈l,OpS o)(hl:l.length≤1000000)(H:AHeap):bD Tryz.prog 86 [.sl b (l.map opA)] H (lgA (logOf l)):=by
 refine fO Tryz.func86 ?_
 repeat' first|(refine gS ?_;simp only[go_sem])|refine gA ?_|(refine gD (fun h=>?_) (fun h=>?_)<;>try exact aA h)|fail
 have hstep:∀i (hi:i<l.length),(cN (l.take (i+1)) [] [])=((cN (l.take i) [] []).1++[⟨l[i],qW (cN (l.take i) [] []).2 l[i]⟩],jQ (cN (l.take i) [] []).2 l[i]):=fun i hi=>by
  rw[zAa hi,xB]
 have hlen:∀i,i≤l.length→(cN (l.take i) [] []).1.length=i∧(cN (l.take i) [] []).2.length≤i:=fun i hi=>by
  have:=aAI (l.take i) [] []
  simp only[zAE,zAy,zBo]at this
  omega
 refine aH (ι:=Nat×AHeap×Nat×Bool) (fun x=>[(0,.sl b (l.map opA)),(2,.ref H.length 0 0),(3,.ref (H.length+1) 0 0),(4,.int .i64 x.1)]) (fun x=>x.2.1)
  (fun x=>x.1≤l.length∧hget x.2.1 H.length=.cells 0 [.sl true [],.sl true []]∧(∃M,x.2.1=H++M)∧
   ((x.1=0∧hget x.2.1 (H.length+1)=.cells 0 [.sl true [],.sl x.2.2.2 ((cN (l.take x.1) [] []).2.map ndA)])∨
    (0<x.1∧H.length+1<x.2.2.1∧hget x.2.1 (H.length+1)=.cells 0 [.osl 17 x.2.2.1 x.1 0 x.1 x.1,.sl x.2.2.2 ((cN (l.take x.1) [] []).2.map ndA)]∧hget x.2.1 x.2.2.1=.cells x.1 (((cN (l.take x.1) [] []).1.map dM).flatMap AV.cells))))
  (fun x=>l.length-x.1) (0,_,0,true) ⟨zAn _,by simp only[go_sem],⟨_,rfl⟩,.inl ⟨rfl,by simp only[go_sem];rfl⟩⟩ ?_ rfl ?_
 ·simp[go_sem]
 ·rintro⟨i,X,k,f⟩ ⟨hi,r1,rP,hcase⟩
  simp only at hi r1 rP hcase ⊢
  obtain⟨hl1,hl2⟩:=hlen i hi
  by_cases hlt:i<l.length
  ·have hp:=aJ opA hlt
   have hli:decide ((i:Int)<(l.length:Int))=true:=dT
   have hst:=hstep i hlt
   have hSo:=hS _ (zAF hlt)
   have hdo:=aUj f (cN (l.take i) [] []).2 l[i] (by omega) (fun H=>vS _ hSo H)
   generalize l[i]=o at *
   generalize(cN (l.take i) [] []).1=es at *
   generalize(cN (l.take i) [] []).2=nn at *
   simp only[opA,unA]at hdo
   rcases hcase with⟨rfl,r2⟩|⟨h0,hk,r2,r3⟩
   ·have hX2:H.length+1<X.length:=aU r2 trivial
    have r2':=fun M=>aG r2 trivial M
    have qs:=fun M b=>bE hX2 M b
    have hlp:((0:Nat):Int)<(l.length:Int):=by omega
    have g1:∀cs M,hget (aB X (H.length+1) (.cells 0 cs)++M) (H.length+1)=.cells 0 cs:=fun cs M=>aG (b:=.cells 0 cs) (bU hX2 _) trivial M
    have g2:∀b b' M,aB (aB X (H.length+1) b++M) (H.length+1) b'=aB X (H.length+1) b'++M:=fun b b' M=>by rw[bE (by rw[bK];exact hX2),fB]
    repeat' first|((first|refine mx [5] iN ?_|refine mx [6] iO ?_|refine gS ?_);simp only[go_sem,hp,opA,hli,r2,r2',qs])|refine gA ?_|(refine gD (fun h=>?_) (fun h=>?_)<;>try exact aA h)|fail
    all_goals((repeat'(with_reducible refine And.intro ?_ ?_))<;>try(first|omega|exact .inl trivial|exact(fun e he=>by rw[he];rfl)))
    repeat' first|((first|refine mx [5] iN ?_|refine mx [6] iO ?_|refine gS ?_);simp only[go_sem,r2,r2',qs,g1,g2])|refine gA ?_|(refine gD (fun h=>?_) (fun h=>?_)<;>try exact aA h)|fail
    have he0:es=[]:=zAO (by omega)
    subst he0
    refine⟨(0+1,_,X.length+1,f&&bB nn o),⟨?_,?_,?_,.inr ⟨?_,?_,?_,?_⟩⟩,?_,?_,rfl⟩
    ·exact hlt
    ·exact aG ((aP (by omega) _).trans r1) trivial _
    ·exact mJ (cR rP (by omega) _) _
    ·exact Nat.zero_lt_one
    ·exact Nat.lt_succ_of_lt hX2
    ·simp only[hst];exact g1 _ _
    ·simp only[hst];exact(vH (k:=1) (bK X _ _)).trans rfl
    ·simp only;omega
    ·exact zAp _ (aK hlt (by omega))
   ·have hX2:H.length+1<X.length:=aU r2 trivial
    have r2':=fun M=>aG r2 trivial M
    have r3':=fun M=>aG r3 trivial M
    have qs:=fun M b=>bE hX2 M b
    have hk':k<X.length:=aU r3 trivial
    have f1:=fun M b=>bE hk' M b
    have f2:=fun M b=>aG ((aP (show k≠H.length+1 by omega) b).trans r2) trivial M
    have f3:∀M b b',aB (aB X k b++M) (H.length+1) b'=aB (aB X k b) (H.length+1) b'++M:=fun M b b'=>bE (by rw[bK];exact hX2) M b'
    have f4:∀b c,hget (aB X k b++[c]) X.length=c:=fun b c=>(lK (bK X k b)).trans rfl
    have hfl:(List.flatMap AV.cells (es.map dM)).length=i * 17:=(rC (s:=17) (fun e he=>by obtain⟨x,_,rfl⟩:=zAi.1 he;rfl)).trans (by rw[zAj,hl1])
    have hlp:((i:Nat):Int)<(l.length:Int):=by omega
    have hX3:∀b,H.length+1<(aB X k b).length:=fun b=>by rw[bK];exact hX2
    have g1:∀b cs M,hget (aB (aB X k b) (H.length+1) (.cells 0 cs)++M) (H.length+1)=.cells 0 cs:=fun b cs M=>aG (b:=.cells 0 cs) (bU (hX3 b) _) trivial M
    have g2:∀b0 b b' M,aB (aB (aB X k b0) (H.length+1) b++M) (H.length+1) b'=aB (aB X k b0) (H.length+1) b'++M:=fun b0 b b' M=>by rw[bE (by rw[bK];exact hX3 b0),fB]
    repeat' first|((first|refine mx [5] iN ?_|refine mx [6] iO ?_|refine gS ?_);simp only[go_sem,hp,opA,hli,r2,r2',r3,r3',qs,f1,f2,f3,f4,hfl])|refine gA ?_|(refine gD (fun h=>?_) (fun h=>?_)<;>try exact aA h)|fail
    all_goals((repeat'(with_reducible refine And.intro ?_ ?_))<;>try(first|omega|exact .inl trivial|exact(fun e he=>by rw[he];rfl)))
    repeat' first|((first|refine mx [5] iN ?_|refine mx [6] iO ?_|refine gS ?_);simp only[go_sem,r2,r2',qs,f1,f2,f3,f4,g1,g2])|refine gA ?_|(refine gD (fun h=>?_) (fun h=>?_)<;>try exact aA h)|fail
    refine⟨(i+1,_,k,f&&bB nn o),⟨?_,?_,?_,.inr ⟨?_,hk,?_,?_⟩⟩,?_,?_,rfl⟩
    ·exact hlt
    ·exact aG ((aP (by omega) _).trans ((aP (by omega) _).trans r1)) trivial _
    ·exact mJ (cR (cR rP (by omega) _) (by omega) _) _
    ·exact Nat.succ_pos i
    ·simp only[hst];exact g1 _ _ _
    ·have ec:((es++[(⟨o,qW nn o⟩:Ent)]).map dM).flatMap AV.cells=(es.map dM).flatMap AV.cells++(dM ⟨o,qW nn o⟩).cells:=by simp
     simp only[hst,ec];exact aG (b:=.cells (i+1) _) ((aP (by omega) _).trans (bU hk' _)) trivial _
    ·simp only;omega
    ·exact zAp _ (aK hlt (by omega))
  ·have hie:i=l.length:=by omega
   have hli:decide ((i:Int)<(l.length:Int))=false:=dF
   have hX0:H.length<X.length:=aU r1 trivial
   have s1:∀b,hget (aB X H.length b) H.length=b:=fun b=>bU hX0 b
   have hlog:logOf l=⟨(cN (l.take i) [] []).1,(cN (l.take i) [] []).2⟩:=by rw[hie,zAq];rfl
   have hpe:∀es:List Ent,∀e∈es.map dM,Pur e:=fun es e he=>by obtain⟨x,_,rfl⟩:=zAi.1 he;exact(by simp only[go_sem])
   have hpn2:∀(f:Bool) (es:List Nd),Pur (.sl f (es.map ndA)):=fun f es=>(by simp only[go_sem])
   have hpn:∀es:List Nd,Pur (.sl true (es.map ndA))∧Pur (.sl false (es.map ndA)):=fun es=>⟨(by simp only[go_sem]),(by simp only[go_sem])⟩
   rw[hlog]
   generalize(cN (l.take i) [] []).1=es at *
   generalize(cN (l.take i) [] []).2=nn at *
   simp only[lgA,qT]
   rcases hcase with⟨h0,r2⟩|⟨h0,hk,r2,r3⟩
   ·repeat' first|((first|refine mx [5] iN ?_|refine mx [6] iO ?_|refine gS ?_);simp only[go_sem,hli,r1,r2,s1])|refine gA ?_|(refine gD (fun h=>?_) (fun h=>?_)<;>try exact aA h)|fail
    have he0:es=[]:=zAO (by omega)
    subst he0
    obtain⟨M,hM⟩:=cR rP (zAh _) (.cells 0 [.sl true [],.sl f (nn.map ndA)])
    refine⟨M,.agg [.sl false [],.sl false (nn.map ndA)],hM,.agg _ _ rfl (jT (Sim.frz (.sl true []) (hpn []).1) (jT (Sim.frz (.sl f _) (hpn2 f nn)) vI)),rfl⟩
   ·repeat' first|((first|refine mx [5] iN ?_|refine mx [6] iO ?_|refine gS ?_);simp only[go_sem,hli,r1,r2,s1])|refine gA ?_|(refine gD (fun h=>?_) (fun h=>?_)<;>try exact aA h)|fail
    obtain⟨M,hM⟩:=cR rP (zAh _) (.cells 0 [.osl 17 k i 0 i i,.sl f (nn.map ndA)])
    have hel:es.length=i:=by omega
    refine⟨M,.agg [.sl false (es.map dM),.sl false (nn.map ndA)],hM,.agg _ _ rfl (jT (iC (s:=17) (es:=es.map dM) (rest:=[]) (by omega) ((aP (by omega) _).trans r3) (zAg _).symm (by rw[zAj];exact hel) (fun e he=>by obtain⟨x,_,rfl⟩:=zAi.1 he;rfl) (hpe es)) (jT (Sim.frz (.sl f _) (hpn2 f nn)) vI)),rfl⟩
end Go.Proofs.YtolbeecicikoaaaGreatDoor
namespace Go.Proofs.YtolbeecicikoaaaGreatDoor
def tK(g:Lg)(o:Opn):Bool:= !opOk o||(fA g.entries o.at_||decide ((200:Int)≤(g.entries.length:Int)))
theorem aK8(out:List Opn)(o:Opn):(∀x∈qU out o,x=o∨x∈out)∧(qU out o).length≤out.length+1:=by
 unfold qU
 grind
theorem aId(l:List Opn):(∀x∈lJ l,x∈l)∧(lJ l).length≤l.length:=by
 suffices h:∀(l acc:List Opn),(∀x∈l.foldl qU acc,x∈l∨x∈acc)∧(l.foldl qU acc).length≤acc.length+l.length by
  have:=h l []
  exact⟨fun x hx=>by simpa using this.1 x hx,by simpa[lJ]using this.2⟩
 intro l
 induction l with
 |nil=>grind
 |cons o l ih=>
  intro acc
  have h1:=ih (qU acc o)
  have h2:=aK8 acc o
  grind
theorem aK9{P:Program}{f:FuncId}{args:List AV}{H H1:AHeap}{v:AV}{K:AV→AHeap→Prop}(h:ACalls P f args H (fun x H'=>x=v∧H'=H1))(ok:dR P f=true)(hk:K v H1):aDs P true (.func (.func f) [] []) args H K:=
 ⟨v,H1,fun _=>Or.inl ⟨ok,by grind⟩,fun h=>(by cases h),hk⟩
theorem aLa(b1 b2:Bool)(g:Lg)(o:Opn)(hs:OpS o)(hes:aQ4 g.entries)(h1:g.entries.length≤1000)(H:AHeap):bD Tryz.prog 39 [qT b1 b2 g,opA o] H (.tup [qT (b1&&tK g o) (b2&&tK g o) (aAK g o),.int .i64 (oQ g o)]):=by
 have hok:=vS o hs
 have hha:=aJU b1 b2 g o.at_
 refine fO Tryz.func39 ?_
 simp only[opA,lgA,qT,stA,aJ2]at hok hha ⊢
 cases ho:opOk o with
 |false=>
  rw[aAK,zAc ho,oQ,zAc ho,tK,ho,zBb,zCm,zBE,zBE]
  repeat' first|((first|refine mx [9] iP ?_|refine gS ?_);simp only[go_sem,ho])|refine gA ?_|(refine gD (fun h=>?_) (fun h=>?_)<;>try exact aA h)|fail
  exact dY (.refl _)
 |true=>
  cases hh:fA g.entries o.at_ with
  |true=>
   rw[aAK,zAb (by rw[ho];decide),zAc hh,oQ,zAb (by rw[ho];decide),zAc hh,tK,hh,zCm,zCQ,zBE,zBE]
   repeat' first|((first|refine mx [9] iP ?_|refine gS ?_);simp only[go_sem,ho,hh])|refine gA ?_|(refine gD (fun h=>?_) (fun h=>?_)<;>try exact aA h)|fail
   exact dY (.refl _)
  |false=>
   by_cases hm:(200:Int)≤(g.entries.length:Int)
   ·rw[aAK,zAb (by rw[ho];decide),zAb (by rw[hh];decide),zAc hm,oQ,zAb (by rw[ho];decide),zAb (by rw[hh];decide),zAc hm,tK,zAd hm,zCQ,zCQ,zBE,zBE]
    repeat' first|((first|refine mx [9] iP ?_|refine gS ?_);simp only[go_sem,ho,hh,hm])|refine gA ?_|(refine gD (fun h=>?_) (fun h=>?_)<;>try exact aA h)|fail
    exact dY (.refl _)
   ·rw[aAK,zAb (by rw[ho];decide),zAb (by rw[hh];decide),zAb hm,oQ,zAb (by rw[ho];decide),zAb (by rw[hh];decide),zAb hm,tK,ho,hh,eT hm,zBz,Bool.or_false,Bool.or_false,zCu,zCu]
    have hgl:(opsG g).length=g.entries.length:=zAj ..
    have hS2:∀x∈opsG g++[o],OpS x:=fun x hx=>by
     rw[zAD,zAx]at hx
     rcases hx with q|rfl
     ·obtain⟨e,he,rfl⟩:=zAi.1 q;exact hes e he
     ·exact hs
    have hso:=fun H=>aIc false (opsG g++[o]) (by rw[zAe,zAX];omega) (fun x hx H=>vS x (hS2 x hx) H) H
    have hsub:=aId (opsG g++[o])
    have hdn:=aNO false (lJ (opsG g++[o])) (fun x hx=>hS2 x (hsub.1 x hx)) (by have:=hsub.2;rw[zAe,zAX]at this;omega)
    have hop:=aK7 b1 b2 g (by omega)
    have hfl:=rR (opsG g)
    rw[hgl]at hfl
    generalize lJ (opsG g++[o])=R at *
    simp only[qT,lgA]at hop hdn ⊢
    have hoc:opA o=.agg (mI o):=rfl
    simp only[mI,opA]at hoc
    repeat' first|((first|refine mx [9] iP ?_|refine gS ?_);simp only[go_sem,ho,hh,hm,hfl])|refine gA ?_|(refine gD (fun h=>?_) (fun h=>?_)<;>try exact aA h)|fail
    refine aK9 (hop _) (cO) ?_
    simp only[go_sem]
    repeat' first|((first|refine mx [9] iP ?_|refine gS ?_);simp only[go_sem,hfl,hoc])|refine gA ?_|(refine gD (fun h=>?_) (fun h=>?_)<;>try exact aA h)|fail
    refine⟨⟨hfl.symm,fun e he=>by rw[he];rfl,by omega⟩,?_⟩
    refine aHn (cs:=((opsG g).map opA).flatMap AV.cells++mI o) ((opsG g++[o]).map opA) [] hso (cO) rfl (by rw[zAj,zAe,hgl];rfl) (by simp only[go_sem,mI]) (by omega) (by rw[zAg,zBa,zA0];rfl) (lO _) ?_
    simp only[go_sem]
    repeat' first|((first|refine mx [9] iP ?_|refine gS ?_);simp only[go_sem])|refine gA ?_|(refine gD (fun h=>?_) (fun h=>?_)<;>try exact aA h)|fail
    exact dY (.refl _)
end Go.Proofs.YtolbeecicikoaaaGreatDoor

/- The texts 46 of 53 beneath the rows of this seat (joined by program): the abstract machine, and what the functions answer. No condition. -/
import Derived.Test.YtolbeecicikoaaaGreatDoorWorkAR
import Derived.Test.YtolbeecicikoaaaGreatDoorWorkBR
set_option linter.unusedSimpArgs false
set_option linter.unusedVariables false
set_option linter.unusedSectionVars false
set_option maxRecDepth 100000
set_option maxHeartbeats 16000000
namespace Go.Proofs.YtolbeecicikoaaaGreatDoor
def aIp(r:Int×Dsk):AV:=if r.1=0 then jX false false r.2.a else jX false false (gR r.1)
theorem aGX{m:Mdl}(h:MI m){p:Txt}{id:Int}(hp:p≠[47])(ha:atN m.log.nodes p=(id,0)):id≠0:=by
 have:=tQ.1 (aD3 h hp ha).1
 omega
theorem fV(f1 f2:Bool)(a:Ans):Sim (jX f1 f2 a) (jX false false a):=
 .agg _ _ rfl (aD (.refl _) (aD (.refl _) (aD (.sl _ _) (aD (.refl _) (aD (.sl _ _) bJ)))))
def kL:List Pl:=[.pure 0,.free,.free,.free,.pure 0,.free,.pure 0,.pure 0,.free,.pure 0,.free,.free,.free,.eff [false,false,false,false,false],.free,.free]
attribute [go_sem] kL
theorem aFL(f1 f2 f3 f4:Bool)(m:Mdl)(h:MI m)(c:Cal)(hp:dW c.path=true)(hs:c.path.length≤1048576)(hd:c.data.length≤64)(H:AHeap):
  bD Tryz.prog 25 [bC f1 f2 f3 f4 m,fJ c] H (opV m (nL c ⟨m,an0,[]⟩)):=by
 refine fO Tryz.func25 ?_
 have hlen:=h.nodes.len
 have hat:=wB f2 m.log.nodes c.path hp hs (by omega)
 unfold nL
 obtain⟨⟨id,e⟩,ha⟩:∃x,atN m.log.nodes c.path=x:=⟨_,rfl⟩
 rw[ha]at hat
 simp only[ha,jS]at hat ⊢
 have hdr:=tR id
 by_cases h2:e=0
 ·subst h2
  rw[zAc rfl]
  cases hdi:dirI id with
  |true=>
   rw[hdi]at hdr
   rw[zAc rfl,eS (by decide)]
   simp only[bC,dN,fJ]
   repeat' first|(refine gS ?_;simp only[go_sem])|refine gA ?_|(refine gD (fun h=>?_) (fun h=>?_)<;>try exact aA h)|fail
   exact dY (dX _ _ _ _ _ m [] 82)
  |false=>
   rw[hdi]at hdr
   obtain⟨ns, -,⟨-,rfl⟩|⟨n,hn,rfl⟩⟩:=aCT ha
   ·cases hdi
   have hno:=aCU h.nodes.frs hn
   have hok:(nextD m).2=0→opOk (writeO m c n.id)=true:=fun h3=>by
    obtain⟨n1,n2,n3,n4,n5,n6⟩:=iW h3
    exact aD2 (by omega) (by omega) n4 n5 hno (aKA hno hdi) (nR (by have:=(h.nodes.nd n hn).id;omega)) hd
   have hn0:n.id≠0:=by have:=tQ.1 hno;omega
   have hmo:mdO m ⟨lT,2,n.id,0,[],c.data⟩ false=writeO m c n.id:=by unfold mdO;simp only;rw[zAb hn0];rfl
   have hmk:=sX f1 f2 f3 f4 m h ⟨lT,2,n.id,0,[],c.data⟩ false (by rw[hmo];exact hok)
   rw[hmo]at hmk
   rw[zAb (by simp),←sY (o:=⟨lT,2,n.id,0,[],c.data⟩) h hok]
   rw[show mC m {(⟨lT,2,n.id,0,[],c.data⟩:Opn)with at_:=⟨m.seen+1,m.rep⟩}=mC m (writeO m c n.id)from rfl]
   generalize writeO m c n.id=o' at *
   unfold mC at hmk ⊢
   by_cases hn:(nextD m).2=0
   ·rw[zAc hn]at hmk ⊢
    generalize aBr m [o']=m' at *
    simp only[bC,dN,fJ,opA,lT]at hmk ⊢
    repeat' first|(refine gS ?_;simp only[go_sem])|refine gA ?_|(refine gD (fun h=>?_) (fun h=>?_)<;>try exact aA h)|fail
    exact dY (.refl _)
   ·rw[zAb hn]at hmk ⊢
    generalize(nextD m).2=e' at *
    simp only[bC,dN,fJ,opA,lT]at hmk ⊢
    repeat' first|(refine gS ?_;simp only[go_sem])|refine gA ?_|(refine gD (fun h=>?_) (fun h=>?_)<;>try exact aA h)|fail
    exact dY (.refl _)
 ·rw[zAb h2,eS h2]
  have he:decide (e=0)=false:=eT h2
  simp only[bC,dN,fJ]
  repeat' first|(refine gS ?_;simp only[go_sem,he])|refine gA ?_|(refine gD (fun h=>?_) (fun h=>?_)<;>try exact aA h)|fail
  exact dY (dX _ _ _ _ _ m [] e)
theorem aIq(f1 f2 f3 f4:Bool)(m:Mdl)(h:MI m)(c:Cal)(hp:dW c.path=true)(hs:c.path.length≤1048576)(hp2:dW c.to=true)(hs2:c.to.length≤1048576)(H:AHeap):
  bD Tryz.prog 27 [bC f1 f2 f3 f4 m,fJ c] H (opV m (tH c ⟨m,an0,[]⟩)):=by
 refine fO Tryz.func27 ?_
 unfold tH
 by_cases r1:c.path=[47]
 ·rw[zAc (.inl r1),eS (by decide)]
  have d1:decide (c.path=[47])=true:=zAd r1
  simp only[bC,dN,fJ]
  repeat' first|(refine gS ?_;simp only[go_sem,d1])|refine gA ?_|(refine gD (fun h=>?_) (fun h=>?_)<;>try exact aA h)|fail
  exact dY (dX _ _ _ _ _ m [] 194)
 have d1:decide (c.path=[47])=false:=eT r1
 by_cases r2:c.to=[47]
 ·rw[zAc (.inr r2),eS (by decide)]
  have d2:decide (c.to=[47])=true:=zAd r2
  simp only[bC,dN,fJ]
  repeat' first|(refine gS ?_;simp only[go_sem,d1,d2])|refine gA ?_|(refine gD (fun h=>?_) (fun h=>?_)<;>try exact aA h)|fail
  exact dY (dX _ _ _ _ _ m [] 194)
 have d2:decide (c.to=[47])=false:=eT r2
 rw[zAb (fun q=>q.elim r1 r2)]
 have hlen:=h.nodes.len
 have hat:=wB f2 m.log.nodes c.path hp hs (by omega)
 obtain⟨⟨id,e⟩,ha⟩:∃x,atN m.log.nodes c.path=x:=⟨_,rfl⟩
 rw[ha]at hat
 simp only[ha,jS]at hat ⊢
 by_cases h2:e=0
 rotate_left
 ·rw[zAb h2,eS h2]
  have he:decide (e=0)=false:=eT h2
  simp only[bC,dN,fJ]
  repeat' first|(refine gS ?_;simp only[go_sem,d1,d2,he])|refine gA ?_|(refine gD (fun h=>?_) (fun h=>?_)<;>try exact aA h)|fail
  exact dY (dX _ _ _ _ _ m [] e)
 subst h2
 rw[zAc rfl]
 have hdir:=aEe f2 m.log.nodes c.to hp2 hs2 (by omega)
 obtain⟨q1,q2⟩:=aEd (l:=m.log.nodes) hp2
 obtain⟨⟨dir,s,e⟩,hab⟩:∃x,abvN m.log.nodes c.to=x:=⟨_,rfl⟩
 rw[hab]at q1 q2 ⊢
 simp only at q1 q2 ⊢
 by_cases h3:e=0
 rotate_left
 ·rw[zAb h3,eS h3]
  obtain⟨⟨x1,s1,e1⟩,hr⟩:∃x,wA m.log.nodes c.to=x:=⟨_,rfl⟩
  rw[hr]at hdir q1
  simp only at hdir q1
  subst q1
  have he:decide (e1=0)=false:=eT h3
  simp only[bC,dN,fJ]
  repeat' first|(refine gS ?_;simp only[go_sem,d1,d2,he])|refine gA ?_|(refine gD (fun h=>?_) (fun h=>?_)<;>try exact aA h)|fail
  exact dY (dX _ _ _ _ _ m [] e1)
 subst h3
 rw[q2 rfl]at hdir
 simp only at hdir
 rw[zAc rfl]
 obtain⟨a1,a2,a3⟩:=aA0 h.nodes h.seen hab
 have hch:=vY f2 m.log.nodes dir s (by omega)
 have hlo:=aFy f2 m.log.nodes dir id (by omega)
 cases hc:childN m.log.nodes dir s with
 |some n=>
  rw[hc]at hch
  simp only[jK]at hch
  rw[zAc (show(some n).isSome=true from rfl),eS (by decide)]
  simp only[bC,dN,fJ]
  repeat' first|(refine gS ?_;simp only[go_sem,d1,d2])|refine gA ?_|(refine gD (fun h=>?_) (fun h=>?_)<;>try exact aA h)|fail
  exact dY (dX _ _ _ _ _ m [] 190)
 |none=>
  rw[hc]at hch
  simp only[jK]at hch
  rw[zAb (by simp)]
  by_cases h4:dir=id∨(eO m.log.nodes dir).contains id=true
  ·rw[zAc h4,eS (by decide)]
   rw[show(decide (dir=id)||(eO m.log.nodes dir).contains id)=true by rw[zBS,zAr];exact h4]at hlo
   simp only[bC,dN,fJ]
   repeat' first|(refine gS ?_;simp only[go_sem,d1,d2])|refine gA ?_|(refine gD (fun h=>?_) (fun h=>?_)<;>try exact aA h)|fail
   exact dY (dX _ _ _ _ _ m [] 192)
  rw[zAb h4]
  rw[show(decide (dir=id)||(eO m.log.nodes dir).contains id)=false by rw[←zBr,zBS,zAr];exact h4]at hlo
  obtain⟨g1,g2,n,g3,g4⟩:=aD3 h r1 ha
  have hok:(nextD m).2=0→opOk (oJ m id dir s)=true:=fun h5=>by
   obtain⟨n1,n2,n3,n4,n5,n6⟩:=iW h5
   exact sQ (by omega) (by omega) n4 n5 g1 (nR (by omega)) a1 (by omega) a3
  have hmo:mdO m ⟨lT,1,id,dir,s,[]⟩ false=oJ m id dir s:=by unfold mdO;simp only;rw[zAb (aGX h r1 ha)];rfl
  have hmk:=sX f1 f2 f3 f4 m h ⟨lT,1,id,dir,s,[]⟩ false (by rw[hmo];exact hok)
  rw[hmo]at hmk
  rw[←sY (o:=⟨lT,1,id,dir,s,[]⟩) h hok]
  rw[show mC m {(⟨lT,1,id,dir,s,[]⟩:Opn)with at_:=⟨m.seen+1,m.rep⟩}=mC m (oJ m id dir s)from rfl]
  generalize oJ m id dir s=o' at *
  unfold mC at hmk ⊢
  by_cases hn:(nextD m).2=0
  ·rw[zAc hn]at hmk ⊢
   generalize aBr m [o']=m' at *
   simp only[bC,dN,fJ,opA,lT]at hmk ⊢
   repeat' first|(refine gS ?_;simp only[go_sem,d1,d2])|refine gA ?_|(refine gD (fun h=>?_) (fun h=>?_)<;>try exact aA h)|fail
   exact dY (.refl _)
  ·rw[zAb hn]at hmk ⊢
   generalize(nextD m).2=e' at *
   simp only[bC,dN,fJ,opA,lT]at hmk ⊢
   repeat' first|(refine gS ?_;simp only[go_sem,d1,d2])|refine gA ?_|(refine gD (fun h=>?_) (fun h=>?_)<;>try exact aA h)|fail
   exact dY (.refl _)
theorem aEp(f1 f2 f3 f4:Bool)(m:Mdl)(h:MI m)(c:Cal)(hp:dW c.path=true)(hs:c.path.length≤1048576)(H:AHeap):
  bD Tryz.prog 28 [bC f1 f2 f3 f4 m,fJ c] H (opV m (lE c ⟨m,an0,[]⟩)):=by
 refine fO Tryz.func28 ?_
 unfold lE
 by_cases r1:c.path=[47]
 ·rw[zAc r1,eS (by decide)]
  have d1:decide (c.path=[47])=true:=zAd r1
  simp only[bC,dN,fJ]
  repeat' first|((first|refine mx [7] kL ?_|refine gS ?_);simp only[go_sem,d1])|refine gA ?_|(refine gD (fun h=>?_) (fun h=>?_)<;>try exact aA h)|fail
  exact dY (dX _ _ _ _ _ m [] 194)
 have d1:decide (c.path=[47])=false:=eT r1
 rw[zAb r1]
 have hlen:=h.nodes.len
 have hat:=wB f2 m.log.nodes c.path hp hs (by omega)
 obtain⟨⟨id,e⟩,ha⟩:∃x,atN m.log.nodes c.path=x:=⟨_,rfl⟩
 rw[ha]at hat
 simp only[ha,jS]at hat ⊢
 by_cases h2:e=0
 rotate_left
 ·rw[zAb h2,eS h2]
  have he:decide (e=0)=false:=eT h2
  simp only[bC,dN,fJ]
  repeat' first|((first|refine mx [7] kL ?_|refine gS ?_);simp only[go_sem,d1,he])|refine gA ?_|(refine gD (fun h=>?_) (fun h=>?_)<;>try exact aA h)|fail
  exact dY (dX _ _ _ _ _ m [] e)
 subst h2
 rw[zAc rfl]
 have hsp:=vZ c.path hs
 unfold xY at hsp
 unfold dW at hp
 cases hn:bV c.path with
 |none=>rw[hn]at hp;cases hp
 |some ns=>
  rw[hn]at hsp
  cases ns with
  |nil=>exact absurd (aDN hn) r1
  |cons x xs=>
   have h16:=jU hn
   rw[zAm]at h16
   simp only
   have hw:IntKind.i64.wrap (((xs.length+1:Nat):Int)-1)=((xs.length:Nat):Int):=by rw[wI];omega
   have hgd:(AV.str x::xs.map AV.str).getD xs.length .top=.str ((x::xs).getLast (by simp)):=by
    rw[←zAA (f:=AV.str),aJ AV.str (by simp),zCi];simp
   have hlt:xs.length<xs.length+1:=zAT _
   have hk0:((0:Int)≤(xs.length:Int))=True:=zAI (by omega)
   have hki:((xs.length:Int)<((xs.length+1:Nat):Int))=True:=zAI (by omega)
   obtain⟨s,hs2⟩:∃s,s=(x::xs).getLast (by simp):=⟨_,rfl⟩
   have hsok:dO s=true:=rV hn s (by rw[hs2];exact List.getLast_mem _)
   rw[←hs2]at hgd ⊢
   simp only[zAA]at hsp
   obtain⟨g1,g2,n,g3,g4⟩:=aD3 h r1 ha
   have hok:(nextD m).2=0→opOk (oJ m id 2 s)=true:=fun h5=>by
    obtain⟨n1,n2,n3,n4,n5,n6⟩:=iW h5
    exact sQ (by omega) (by omega) n4 n5 g1 (nR (by omega)) rfl (by rw[aUl];omega) hsok
   have hmo:mdO m ⟨lT,1,id,2,s,[]⟩ false=oJ m id 2 s:=by unfold mdO;simp only;rw[zAb (aGX h r1 ha)];rfl
   have hmk:=sX f1 f2 f3 f4 m h ⟨lT,1,id,2,s,[]⟩ false (by rw[hmo];exact hok)
   rw[hmo]at hmk
   rw[←sY (o:=⟨lT,1,id,2,s,[]⟩) h hok]
   rw[show mC m {(⟨lT,1,id,2,s,[]⟩:Opn)with at_:=⟨m.seen+1,m.rep⟩}=mC m (oJ m id 2 s)from rfl]
   generalize oJ m id 2 s=o' at *
   unfold mC at hmk ⊢
   by_cases hnx:(nextD m).2=0
   ·rw[zAc hnx]at hmk ⊢
    generalize aBr m [o']=m' at *
    simp only[bC,dN,fJ,opA,lT]at hmk ⊢
    repeat' first|((first|refine mx [7] kL ?_|refine gS ?_);simp only[go_sem,d1,hw,hgd,hlt,hk0,hki])|refine gA ?_|(refine gD (fun h=>?_) (fun h=>?_)<;>try exact aA h)|fail
    exact dY (.refl _)
   ·rw[zAb hnx]at hmk ⊢
    generalize(nextD m).2=e' at *
    simp only[bC,dN,fJ,opA,lT]at hmk ⊢
    repeat' first|((first|refine mx [7] kL ?_|refine gS ?_);simp only[go_sem,d1,hw,hgd,hlt,hk0,hki])|refine gA ?_|(refine gD (fun h=>?_) (fun h=>?_)<;>try exact aA h)|fail
    exact dY (.refl _)
theorem aLv(f1 f2 f3 f4:Bool)(m:Mdl)(h:MI m)(c:Cal)(hk:c.kind=4∨c.kind=7)(hp:dW c.path=true)(hs:c.path.length≤1048576)(H:AHeap):
  bD Tryz.prog 26 [bC f1 f2 f3 f4 m,fJ c] H (aIp (if c.kind=4 then nM c ⟨m,an0,[]⟩else lsD c ⟨m,an0,[]⟩)):=by
 refine fO Tryz.func26 ?_
 have hof:=aNN f1 f2 f3 f4 m c.n (by have:=h.snaps;omega)
 have hA:aIp (if c.kind=4 then nM c ⟨m,an0,[]⟩else lsD c ⟨m,an0,[]⟩)=match fR m c.n with
  |none=>jX false false (gR 191)
  |some l=>if(atN l c.path).2=0 then(if c.kind=7 then(if dirI (atN l c.path).1=true then jX false false {an0 with names:=nJ l (atN l c.path).1}else jX false false (gR 81))else if dirI (atN l c.path).1=true then jX false false (gR 82)else jX false false {an0 with data:=((findI l (atN l c.path).1).getD nd0).data})else jX false false (gR (atN l c.path).2):=by
  unfold aIp nM lsD
  cases hno:fR m c.n with
  |none=>rcases hk with hk|hk<;>simp[hk,hno]
  |some l=>
   by_cases e:(atN l c.path).2=0
   ·cases hd:dirI (atN l c.path).1<;>rcases hk with hk|hk<;>simp[hk,hno,e,hd]
   ·rcases hk with hk|hk<;>simp[hk,hno,e]
 rw[hA]
 cases hno:fR m c.n with
 |none=>
  rw[hno]at hof
  simp only[bC,dN,fJ]at hof ⊢
  repeat' first|(refine gS ?_;simp only[go_sem])|refine gA ?_|(refine gD (fun h=>?_) (fun h=>?_)<;>try exact aA h)|fail
  exact dY (fV true true (gR 191))
 |some l=>
  rw[hno]at hof
  simp only at hof ⊢
  have hns:∃q,NsI q l:=by
   unfold fR at hno
   split at hno
   ·cases hno;exact⟨_,h.nodes⟩
   ·obtain⟨s,hf,rfl⟩:=zAR.1 hno
    exact⟨_,h.snap s (zA5 hf)⟩
  obtain⟨q,hns⟩:=hns
  have hl:=hns.len
  have hsm:SmN l:=fun n hn=>by have:=(hns.nd n hn).name;omega
  have hat:=wB false l c.path hp hs (by omega)
  obtain⟨⟨id,e⟩,ha⟩:∃x,atN l c.path=x:=⟨_,rfl⟩
  rw[ha]at hat ⊢
  simp only[jS]at hat ⊢
  have hdr:=tR id
  have hls:=aBc false l id hns.frs.chk (by omega) hsm
  have hfi:=aCR false l id
  by_cases he:e=0
  rotate_left
  ·rw[zAb he]
   have d0:decide (e=0)=false:=eT he
   simp only[bC,dN,fJ]at hof ⊢
   repeat' first|(refine gS ?_;simp only[go_sem,d0])|refine gA ?_|(refine gD (fun h=>?_) (fun h=>?_)<;>try exact aA h)|fail
   exact dY (fV true true (gR e))
  subst he
  rw[zAc rfl]
  by_cases h7:c.kind=7
  ·rw[zAc h7]
   have d7:decide (c.kind=7)=true:=zAd h7
   cases hd:dirI id with
   |true=>
    rw[hd]at hdr
    rw[zAc rfl]
    simp only[bC,dN,fJ]at hof ⊢
    repeat' first|(refine gS ?_;simp only[go_sem,d7])|refine gA ?_|(refine gD (fun h=>?_) (fun h=>?_)<;>try exact aA h)|fail
    exact dY (fV false true {an0 with names:=nJ l id})
   |false=>
    rw[hd]at hdr
    rw[zAb (by simp)]
    simp only[bC,dN,fJ]at hof ⊢
    repeat' first|(refine gS ?_;simp only[go_sem,d7])|refine gA ?_|(refine gD (fun h=>?_) (fun h=>?_)<;>try exact aA h)|fail
    exact dY (fV true true (gR 81))
  ·rw[zAb h7]
   have d7:decide (c.kind=7)=false:=eT h7
   cases hd:dirI id with
   |true=>
    rw[hd]at hdr
    rw[zAc rfl]
    simp only[bC,dN,fJ]at hof ⊢
    repeat' first|(refine gS ?_;simp only[go_sem,d7])|refine gA ?_|(refine gD (fun h=>?_) (fun h=>?_)<;>try exact aA h)|fail
    exact dY (fV true true (gR 82))
   |false=>
    rw[hd]at hdr
    rw[zAb (by simp)]
    obtain⟨n,b,hfa,hnb⟩:∃n b,ndV (findI l id)=.tup [ndA n,.bool b]∧(findI l id).getD nd0=n:=by
     cases findI l id with
     |none=>exact⟨nd0,false,rfl,rfl⟩
     |some n=>exact⟨n,true,rfl,rfl⟩
    rw[hfa]at hfi
    rw[hnb]
    simp only[bC,dN,fJ,ndA]at hof hfi ⊢
    repeat' first|(refine gS ?_;simp only[go_sem,d7])|refine gA ?_|(refine gD (fun h=>?_) (fun h=>?_)<;>try exact aA h)|fail
    exact dY (fV true true {an0 with data:=n.data})
end Go.Proofs.YtolbeecicikoaaaGreatDoor

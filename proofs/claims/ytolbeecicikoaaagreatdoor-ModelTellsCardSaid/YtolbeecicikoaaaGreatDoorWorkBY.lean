/- The texts 51 of 53 beneath the rows of this seat (joined by program): the abstract machine, and what the functions answer. No condition. -/
import Derived.Test.YtolbeecicikoaaaGreatDoorWorkAH
import Derived.Test.YtolbeecicikoaaaGreatDoorWorkAN
import Derived.Test.YtolbeecicikoaaaGreatDoorWorkBX
set_option linter.unusedSimpArgs false
set_option linter.unusedVariables false
set_option linter.unusedSectionVars false
set_option maxRecDepth 100000
set_option maxHeartbeats 16000000
namespace Go.Proofs.YtolbeecicikoaaaGreatDoor
abbrev anF:Ans→AV:=jX false false
theorem aOr(x:Ans):Pur (anF x):=.agg _ fun y hy=>by
 simp only[zAv,zAS,zBY]at hy
 rcases hy with rfl|rfl|rfl|rfl|rfl
 ·exact .int _ _
 ·exact .str _
 ·exact .sl _ _ fun x hx=>by(obtain⟨y, -,rfl⟩:=zAi.1 hx;exact .str _)
 ·exact .int _ _
 ·exact .sl _ _ fun x hx=>by(obtain⟨y, -,rfl⟩:=zAi.1 hx;simp only[cY,go_sem])
theorem aIw(m:Mdl)(c:Cal)(l:List Cal):uA m (c::l)=((uA (doM m c).1 l).1,(doM m c).2.1::(uA (doM m c).1 l).2):=rfl
theorem aLE(f1 f2 f3 f4 b:Bool)(m:Mdl)(h:MI m)(l:List Cal)(hl:l.length≤1000)(hc:∀c∈l,CS c)(H:AHeap):
  bD Tryz.prog 16 [bC f1 f2 f3 f4 m,.sl b (l.map fJ)] H (.tup [bC false false false false (uA m l).1,.sl false ((uA m l).2.map (jX false false))]):=by
 refine fO Tryz.func16 ?_
 have hl8:(l.length * 80≤140737488355328)=True:=zAI (by omega)
 repeat' first|(refine gS ?_;simp only[go_sem,bC,dN,hl8])|refine gA ?_|(refine gD (fun h=>?_) (fun h=>?_)<;>try exact aA h)|fail
 refine zR H.length (bC false false false false m).cells (v:=0) (cs:=(bC f1 f2 f3 f4 m).cells) (by simp only[go_sem];rfl) rfl (aD (.sl _ _) (aD (.sl _ _) (aD (.refl _) (aD (.refl _) (aD (.sl _ _) (aD (.sl _ _) (aD (.refl _) bJ))))))) ?_
 simp only[go_sem]
 obtain⟨Z,hZ⟩:∃Z,Z=List.flatMap AV.cells (List.replicate l.length (AV.agg [.int .i64 0,.str [],.sl true [],.int .i64 0,.sl true []])):=⟨_,rfl⟩
 have hZl:Z.length=l.length * 5:=by
  rw[hZ]
  induction l.length with
  |zero=>rfl
  |succ n ih=>rw[zBJ,zAK,zAe,ih];simp[AV.cells];omega
 rw[←hZ]
 obtain⟨B4,hB4⟩:∃B:List AV,B=[.sl true [],.sl true [],.int .i64 0,.int .i64 0,.sl true [],.sl true [],.int .i64 0]:=⟨_,rfl⟩
 rw[←hB4]
 obtain⟨R,hR⟩:∃R,R=uA m l:=⟨_,rfl⟩
 rw[←hR]
 refine aH (ι:=Nat×Mdl×List Ans×AHeap) (fun s=>[(2,.ref H.length 0 0),(4,.ref (H.length+1) 0 0),(6,.osl 5 (H.length+2) 1 0 s.1 l.length),(13,.sl b (l.map fJ)),(14,.int .i64 l.length),(15,.int .i64 s.1)])
  (fun s=>H++(.cells 0 (bC false false false false s.2.1).cells::.cells 0 B4::.cells 1 (flA anF s.2.2.1++Z.drop (s.1 * 5))::s.2.2.2))
  (fun s=>s.1≤l.length∧s.2.2.1.length=s.1∧MI s.2.1∧R=((uA s.2.1 (l.drop s.1)).1,s.2.2.1++(uA s.2.1 (l.drop s.1)).2)) (fun s=>l.length-s.1) (0,m,[],[]) ⟨zAn _,rfl,h,by simp[hR]⟩ ?_ ?_ ?_
 ·simp[go_sem]
 ·simp[vO]
 rintro⟨k,mk,an,M⟩ ⟨hk,hal,hmi,hr⟩
 simp only at hk hal hmi hr ⊢
 obtain⟨G,hG⟩:∃G,H++(.cells 0 (bC false false false false mk).cells::.cells 0 B4::.cells 1 (flA anF an++Z.drop (k * 5))::M)=G:=⟨_,rfl⟩
 rw[hG]
 have g0:hget G H.length=.cells 0 (bC false false false false mk).cells:=by rw[←hG];simp only[go_sem]
 have g2:hget G (H.length+2)=.cells 1 (flA anF an++Z.drop (k * 5)):=by rw[←hG];simp only[go_sem]
 have gs:∀X Y,aB (aB G (H.length+2) Y) H.length X=H++(X::.cells 0 B4::Y::M):=fun X Y=>by rw[←hG];simp only[go_sem]
 have g1:∀L,aB (G++L) (H.length+1)=aB (G++L) (H.length+1):=fun L=>rfl
 have r0:=g0;have r1:=aR g0 trivial;have r2:=aR g2 trivial;have hl1:=aU g0 trivial;have hl2:=aU g2 trivial;have r3:=fun X L=>aG (aT g2 (show ¬H.length=H.length+2 by omega) X) trivial L;have r4:=fun X=>aT g2 (show ¬H.length=H.length+2 by omega) X;have hnl:=aC G (H.length);have qs:=lP hl1 hl2 (show H.length<H.length+2 by omega) rfl
 have hfl:=bQ (enc:=anF) (s:=5) (fun _=>rfl) an
 rw[hal]at hfl
 by_cases hlt:k<l.length
 ·have hgd:=aJ fJ hlt
  have hdr:=zAk hlt
  rw[hdr,aIw]at hr
  have hcs:=hc _ (zAF hlt)
  obtain⟨c,hcc⟩:∃c,c=l[k]:=⟨_,rfl⟩
  rw[←hcc]at hgd hr hcs
  have hdo:=aPt false false false false mk hmi c hcs
  have hmi2:=aPj hmi c
  obtain⟨⟨m2,a2,o2⟩,hr2⟩:∃r,doM mk c=r:=⟨_,rfl⟩
  rw[hr2]at hdo hr hmi2
  simp only[doV,bC,dN,fJ,jX]at hdo
  simp only[fJ]at hgd
  have hli:decide ((k:Int)<(l.length:Int))=true:=dT
  have hw:=aK hlt (by omega)
  have hkn:(k=l.length)=False:=zDa (by omega)
  have hsp:cH (flA anF an++Z.drop (k * 5)) (k * 5) (anF a2).cells=flA anF (an++[a2])++Z.drop ((k+1) * 5):=by
   rw[fG hfl,fC,fD,vO,zCv,zAg,zAu]
   congr 3
   show k * 5+5=_
   omega
  simp only[jX,AV.cells]at hsp
  have hzl:(flA anF an++Z.drop (k * 5)).length=l.length * 5:=by rw[zAe,zAH,hfl,hZl];omega
  have hq1:(∀e,e=AV.agg [.int .i64 a2.err,.str a2.data,.sl false (a2.names.map AV.str),.int .i64 a2.n,.sl false (a2.events.map cY)]→e.cells.length=5)=True:=zAI (fun e he=>by rw[he];rfl)
  repeat' first|(refine gS ?_;simp only[go_sem,r0,r1,r2,r3,r4,hnl,qs,aC,bC,dN,hgd,hli,hlt,hkn,hsp,hzl,hq1])|refine gA ?_|(refine gD (fun h=>?_) (fun h=>?_)<;>try exact aA h)|fail
  refine⟨(k+1,m2,an++[a2],M++[.cells 0 (fJ c).cells,.cells 0 (anF a2).cells]),⟨hlt,by simp[hal],hmi2,by rw[hr];simp⟩,by simp only;omega,⟨rfl,zAp _ hw⟩,?_⟩
  rw[gs]
  simp[jX,fJ,AV.cells]
 ·have hke:k=l.length:=by omega
  have hli:decide ((k:Int)<(l.length:Int))=false:=dF
  rw[hke,zA7]at hr
  simp only[uA,zAg]at hr
  have hZ0:Z.drop (k * 5)=[]:=by rw[hke,←hZl,zA7]
  rw[hZ0,zAg]at hG
  rw[←hG]
  repeat' first|(refine gS ?_;simp only[go_sem,bC,dN,hli,hB4])|refine gA ?_|(refine gD (fun h=>?_) (fun h=>?_)<;>try exact aA h)|fail
  rw[hr]
  exact⟨_,.tup [bC false false false false mk,.sl false (an.map anF)],rfl,.tup _ _ rfl (aS (.cl _ ((Pur.cl (x:=bC false false false false mk) (by simp only[go_sem])) _)) (aS (qJ (enc:=anF) (D:=an) (by omega) (by simp only[go_sem]) hal (fun _=>rfl) aOr) cI)),rfl⟩
theorem aIx(f1 f2 f3 f4 b:Bool)(m:Mdl)(ops:List Opn)(hf:Fit m.log ops.length)(hl:ops.length≤100000)(ho:∀o∈ops,OpS o)(H:AHeap):
  bD Tryz.prog 14 [bC f1 f2 f3 f4 m,.sl b (ops.map opA)] H (bC false false false false (jF m ops)):=by
 refine fO Tryz.func14 ?_
 have hm:=aWd f1 f2 b m.log ops hf ho
 simp only[qT,aJ2,lgA]at hm
 repeat' first|(refine gS ?_;simp only[go_sem,bC,dN])|refine gA ?_|(refine gD (fun h=>?_) (fun h=>?_)<;>try exact aA h)|fail
 refine zR H.length (.sl false ((eQ m.log ops).entries.map dM)::.sl false ((eQ m.log ops).nodes.map ndA)::.int .i64 m.seen::.int .i64 m.rep::.sl false (m.snaps.map dP)::.sl false (m.watches.map cD)::[.int .i64 m.next]) (v:=0)
  (cs:=.sl false ((eQ m.log ops).entries.map dM)::.sl false ((eQ m.log ops).nodes.map ndA)::.int .i64 m.seen::.int .i64 m.rep::.sl f3 (m.snaps.map dP)::.sl f4 (m.watches.map cD)::[.int .i64 m.next]) (by simp only[go_sem]) rfl (aD (.refl _) (aD (.refl _) (aD (.refl _) (aD (.refl _) (aD (.sl _ _) (aD (.sl _ _) (aD (.refl _) bJ))))))) ?_
 simp only[go_sem]
 obtain⟨B4,hB4⟩:∃B:List AV,B=[.sl true [],.sl true [],.int .i64 0,.int .i64 0,.sl true [],.sl true [],.int .i64 0]:=⟨_,rfl⟩
 rw[←hB4]
 obtain⟨g,hg⟩:∃g,g=eQ m.log ops:=⟨_,rfl⟩
 rw[←hg]
 obtain⟨R,hR⟩:∃R,R=jF m ops:=⟨_,rfl⟩
 rw[←hR]
 obtain⟨ss,hss⟩:∃ss,ss=ops.foldl (fun n o=>if opOk o=true then bY n o.at_ else n) m.seen:=⟨_,rfl⟩
 have hR2:R={m with log:=g,seen:=ss}:=by rw[hR,hg,hss];rfl
 refine aH (ι:=Nat×Int×AHeap) (fun s=>[(2,.ref H.length 0 0),(4,.ref (H.length+1) 0 0),(15,.sl b (ops.map opA)),(16,.int .i64 ops.length),(17,.int .i64 s.1)])
  (fun s=>H++(.cells 0 (bC false false false false {m with log:=g,seen:=s.2.1}).cells::.cells 0 B4::s.2.2))
  (fun s=>s.1≤ops.length∧ss=(ops.drop s.1).foldl (fun n o=>if opOk o=true then bY n o.at_ else n) s.2.1) (fun s=>ops.length-s.1) (0,m.seen,[]) ⟨zAn _,by simp[hss]⟩ ?_ ?_ ?_
 ·simp[go_sem]
 ·simp[bC,dN,AV.cells]
 rintro⟨k,s,M⟩ ⟨hk,hs⟩
 simp only at hk hs ⊢
 obtain⟨G,hG⟩:∃G,H++(.cells 0 (bC false false false false {m with log:=g,seen:=s}).cells::.cells 0 B4::M)=G:=⟨_,rfl⟩
 by_cases hlt:k<ops.length
 ·rw[hG]
  have g0:hget G H.length=.cells 0 (bC false false false false {m with log:=g,seen:=s}).cells:=by rw[←hG];simp only[go_sem]
  have g1:=aR g0 trivial
  have g2:=eE g0 trivial
  have gs:∀X,aB G H.length X=H++(X::.cells 0 B4::M):=fun X=>by rw[←hG];simp only[go_sem]
  have hgd:=aJ opA hlt
  have hdr:=zAk hlt
  rw[hdr,zAZ]at hs
  have hos:=ho _ (zAF hlt)
  obtain⟨o,hoo⟩:∃o,o=ops[k]:=⟨_,rfl⟩
  rw[←hoo]at hgd hs hos
  have hok:=xA o hos
  have hse:=aGv s o.at_ true
  simp only[opA]at hgd hok
  have hli:decide ((k:Int)<(ops.length:Int))=true:=dT
  have hw:=aK hlt (by omega)
  cases hO:opOk o with
  |true=>
   rw[hO]at hok
   rw[hO,zAc rfl]at hs
   repeat' first|(refine gS ?_;simp only[go_sem,g0,g1,g2,bC,dN,hgd,hli,hlt])|refine gA ?_|(refine gD (fun h=>?_) (fun h=>?_)<;>try exact aA h)|fail
   exact⟨(k+1,bY s o.at_,M++[.cells 0 (opA o).cells]),⟨hlt,hs⟩,by simp only;omega,zAp _ hw,by rw[gs];simp[opA,AV.cells]⟩
  |false=>
   rw[hO]at hok
   rw[hO,zAb (by simp)]at hs
   repeat' first|(refine gS ?_;simp only[go_sem,g0,g1,g2,bC,dN,hgd,hli,hlt])|refine gA ?_|(refine gD (fun h=>?_) (fun h=>?_)<;>try exact aA h)|fail
   exact⟨(k+1,s,M++[.cells 0 (opA o).cells]),⟨hlt,hs⟩,by simp only;omega,zAp _ hw,by rw[←hG];simp[opA,bC,dN,AV.cells]⟩
 ·have hke:k=ops.length:=by omega
  have hli:decide ((k:Int)<(ops.length:Int))=false:=dF
  rw[hke,zA7]at hs
  repeat' first|(refine gS ?_;simp only[go_sem,bC,dN,hli,hB4])|refine gA ?_|(refine gD (fun h=>?_) (fun h=>?_)<;>try exact aA h)|fail
  rw[hR2]
  exact dY (.of (by rw[hs];rfl))
end Go.Proofs.YtolbeecicikoaaaGreatDoor
namespace Go.Proofs.YtolbeecicikoaaaGreatDoor
theorem aLF(f g o p:Bool)(e k:List Evt)(H:AHeap):bD Tryz.prog 42 [.agg [.sl f (e.map cY),.bool o],.agg [.sl g (k.map cY),.bool p]] H (.bool (decide (e=k)&&decide (o=p))):=by
 refine fO Tryz.func42 ?_
 have h1:=aGA f g e k
 cases hd:decide (e=k)with
 |true=>
  rw[hd]at h1
  repeat' first|(refine gS ?_;simp only[go_sem])|refine gA ?_|(refine gD (fun h=>?_) (fun h=>?_)<;>try exact aA h)|fail
  exact dY (.refl _)
 |false=>
  rw[hd]at h1
  repeat' first|(refine gS ?_;simp only[go_sem])|refine gA ?_|(refine gD (fun h=>?_) (fun h=>?_)<;>try exact aA h)|fail
  exact dY (.refl _)
theorem aIy(b1 b2:Bool)(l m:List Snp)(H:AHeap):bD Tryz.prog 18 [.sl b1 (l.map dP),.sl b2 (m.map dP)] H (.bool (decide (l=m))):=by
 refine eR fun hok _=>?_
 have hl:=jB hok
 rw[zAj]at hl
 refine fO Tryz.func18 ?_
 repeat' first|(refine gS ?_;simp only[go_sem])|refine gA ?_|(refine gD (fun h=>?_) (fun h=>?_)<;>try exact aA h)|fail
 ·exact bL (.of (by rw[eT (fun e=>by subst e;simp at h)]))
 ·have hlen:l.length=m.length:=by simp at h;omega
  refine aH (ι:=Nat) (fun i=>[(0,.sl b1 (l.map dP)),(1,.sl b2 (m.map dP)),(5,.int .i64 i)]) (fun _=>H) (fun i=>i≤l.length∧l.take i=m.take i) (fun i=>l.length-i) 0 ⟨zAn _,rfl⟩ ?_ rfl ?_
  ·simp[go_sem]
  ·rintro i ⟨hi,he⟩
   by_cases hlt:i<l.length
   ·have hp:=aJ dP hlt
    have hq:=aJ dP (show i<m.length by omega)
    obtain⟨x,hx⟩:∃x,x=l[i]:=⟨_,rfl⟩
    obtain⟨y,hy⟩:∃y,y=m[i]'(by omega):=⟨_,rfl⟩
    rw[←hx]at hp
    rw[←hy]at hq
    have hlt2:i<m.length:=by omega
    have hno:x≠y→decide (l=m)=false:=fun hne=>eT fun e=>hne (by subst e;rw[hx,hy])
    have hyes:x=y→∃z:Nat,(z≤l.length∧l.take z=m.take z)∧l.length-z<l.length-i∧AV.int .i64 (IntKind.i64.wrap ((i:Int)+1))=AV.int .i64 z:=fun heq=>⟨i+1,⟨hlt,by rw[zAa hlt,zAa (by omega),he,←hx,←hy,heq]⟩,by omega,by rw[wI];rfl⟩
    have h6:=aGf false false x.nodes y.nodes
    by_cases e1:x.nodes=y.nodes
    ·rw[zAd e1]at h6
     by_cases e2:x.n=y.n
     ·have d2:decide (x.n=y.n)=true:=zAd e2
      repeat' first|(refine gS ?_;simp only[go_sem,hp,hq,dP,hlt,hlt2,d2])|refine gA ?_|(refine gD (fun h=>?_) (fun h=>?_)<;>try exact aA h)|fail
      exact hyes (by cases x;cases y;simp_all)
     ·have d2:decide (x.n=y.n)=false:=eT e2
      repeat' first|(refine gS ?_;simp only[go_sem,hp,hq,dP,hlt,hlt2,d2])|refine gA ?_|(refine gD (fun h=>?_) (fun h=>?_)<;>try exact aA h)|fail
      exact bL (.of (by rw[hno fun e=>e2 (by rw[e])]))
    ·rw[eT e1]at h6
     repeat' first|(refine gS ?_;simp only[go_sem,hp,hq,dP,hlt,hlt2])|refine gA ?_|(refine gD (fun h=>?_) (fun h=>?_)<;>try exact aA h)|fail
     exact bL (.of (by rw[hno fun e=>e1 (by rw[e])]))
   ·have hi':i=l.length:=by omega
    subst hi'
    repeat' first|(refine gS ?_;simp only[go_sem])|refine gA ?_|(refine gD (fun h=>?_) (fun h=>?_)<;>try exact aA h)|fail
    exact bL (.of (by rw[zAd (by rw[zAq,hlen,zAq]at he;exact he)]))
theorem aEt(b1 b2:Bool)(l m:List Wch)(H:AHeap):bD Tryz.prog 19 [.sl b1 (l.map cD),.sl b2 (m.map cD)] H (.bool (decide (l=m))):=by
 refine eR fun hok _=>?_
 have hl:=jB hok
 rw[zAj]at hl
 refine fO Tryz.func19 ?_
 repeat' first|(refine gS ?_;simp only[go_sem])|refine gA ?_|(refine gD (fun h=>?_) (fun h=>?_)<;>try exact aA h)|fail
 ·exact bL (.of (by rw[eT (fun e=>by subst e;simp at h)]))
 ·have hlen:l.length=m.length:=by simp at h;omega
  refine aH (ι:=Nat) (fun i=>[(0,.sl b1 (l.map cD)),(1,.sl b2 (m.map cD)),(5,.int .i64 i)]) (fun _=>H) (fun i=>i≤l.length∧l.take i=m.take i) (fun i=>l.length-i) 0 ⟨zAn _,rfl⟩ ?_ rfl ?_
  ·simp[go_sem]
  ·rintro i ⟨hi,he⟩
   by_cases hlt:i<l.length
   ·have hp:=aJ cD hlt
    have hq:=aJ cD (show i<m.length by omega)
    obtain⟨x,hx⟩:∃x,x=l[i]:=⟨_,rfl⟩
    obtain⟨y,hy⟩:∃y,y=m[i]'(by omega):=⟨_,rfl⟩
    rw[←hx]at hp
    rw[←hy]at hq
    have hlt2:i<m.length:=by omega
    have hno:x≠y→decide (l=m)=false:=fun hne=>eT fun e=>hne (by subst e;rw[hx,hy])
    have hyes:x=y→∃z:Nat,(z≤l.length∧l.take z=m.take z)∧l.length-z<l.length-i∧AV.int .i64 (IntKind.i64.wrap ((i:Int)+1))=AV.int .i64 z:=fun heq=>⟨i+1,⟨hlt,by rw[zAa hlt,zAa (by omega),he,←hx,←hy,heq]⟩,by omega,by rw[wI];rfl⟩
    have h6:=aLF false false x.over y.over x.evs y.evs
    by_cases e1:x.evs=y.evs∧x.over=y.over
    ·rw[zAd e1.1,zAd e1.2]at h6
     by_cases e2:x.n=y.n
     ·have d2:decide (x.n=y.n)=true:=zAd e2
      by_cases e3:x.dir=y.dir
      ·have d3:decide (x.dir=y.dir)=true:=zAd e3
       repeat' first|(refine gS ?_;simp only[go_sem,hp,hq,cD,hlt,hlt2,d2,d3,Bool.and_self])|refine gA ?_|(refine gD (fun h=>?_) (fun h=>?_)<;>try exact aA h)|fail
       exact hyes (by cases x;cases y;simp_all)
      ·have d3:decide (x.dir=y.dir)=false:=eT e3
       repeat' first|(refine gS ?_;simp only[go_sem,hp,hq,cD,hlt,hlt2,d2,d3,Bool.and_self])|refine gA ?_|(refine gD (fun h=>?_) (fun h=>?_)<;>try exact aA h)|fail
       exact bL (.of (by rw[hno fun e=>e3 (by rw[e])]))
     ·have d2:decide (x.n=y.n)=false:=eT e2
      repeat' first|(refine gS ?_;simp only[go_sem,hp,hq,cD,hlt,hlt2,d2,Bool.and_self])|refine gA ?_|(refine gD (fun h=>?_) (fun h=>?_)<;>try exact aA h)|fail
      exact bL (.of (by rw[hno fun e=>e2 (by rw[e])]))
    ·have hf:(decide (x.evs=y.evs)&&decide (x.over=y.over))=false:=by
      rw[zB8];intro h;simp only[zAl,zAr]at h;exact e1 h
     rw[hf]at h6
     repeat' first|(refine gS ?_;simp only[go_sem,hp,hq,cD,hlt,hlt2])|refine gA ?_|(refine gD (fun h=>?_) (fun h=>?_)<;>try exact aA h)|fail
     exact bL (.of (by rw[hno fun e=>e1 (by rw[e];exact⟨rfl,rfl⟩)]))
   ·have hi':i=l.length:=by omega
    subst hi'
    repeat' first|(refine gS ?_;simp only[go_sem])|refine gA ?_|(refine gD (fun h=>?_) (fun h=>?_)<;>try exact aA h)|fail
    exact bL (.of (by rw[zAd (by rw[zAq,hlen,zAq]at he;exact he)]))
theorem aBj(f1 f2 f3 f4 g1 g2 g3 g4:Bool)(m n:Mdl)(H:AHeap):bD Tryz.prog 9 [bC f1 f2 f3 f4 m,bC g1 g2 g3 g4 n] H (.bool (decide (m=n))):=by
 refine fO Tryz.func9 ?_
 have h1:=aM8 f1 f2 g1 g2 m.log n.log
 have h2:=aIy f3 g3 m.snaps n.snaps
 have h3:=aEt f4 g4 m.watches n.watches
 simp only[qT]at h1
 have hall:decide (m=n)=(decide (m.log=n.log)&&decide (m.snaps=n.snaps)&&decide (m.watches=n.watches)&&decide (m.seen=n.seen)&&decide (m.rep=n.rep)&&decide (m.next=n.next)):=by
  cases m;cases n
  rw[zA8];simp;constructor<;>(intro h;simp_all)
 rw[hall]
 generalize decide (m.log=n.log)=p1 at *
 generalize decide (m.snaps=n.snaps)=p2 at *
 generalize decide (m.watches=n.watches)=p3 at *
 repeat' first|(refine gS ?_;simp only[go_sem,bC,dN])|refine gA ?_|(refine gD (fun h=>?_) (fun h=>?_)<;>try exact aA h)|fail
 exact dY (.refl _)
end Go.Proofs.YtolbeecicikoaaaGreatDoor

/- The texts 53 of 53 beneath the rows of this seat (joined by program): the abstract machine, and what the functions answer. No condition. -/
import Derived.Test.YtolbeecicikoaaaGreatDoorWorkAE
import Derived.Test.YtolbeecicikoaaaGreatDoorWorkAU
import Derived.Test.YtolbeecicikoaaaGreatDoorWorkBY
import Derived.Test.YtolbeecicikoaaaGreatDoorWorkBZ
set_option linter.unusedSimpArgs false
set_option linter.unusedVariables false
set_option linter.unusedSectionVars false
set_option maxRecDepth 100000
set_option maxHeartbeats 16000000
namespace Go.Proofs.YtolbeecicikoaaaGreatDoor
def awC:List Cal:=[⟨2,[47,97],[],[],0⟩,⟨10,[47],[],[],0⟩,⟨1,[47,97,47,102],[],[],0⟩,⟨8,[],[],[],0⟩,⟨3,[47,97,47,102],[],[120],0⟩,⟨5,[47,97],[47,97,47,98],[],0⟩,⟨4,[47,97,47,102],[],[],0⟩,⟨4,[47,97,47,102],[],[],2⟩,⟨6,[47,97],[],[],0⟩,⟨11,[],[],[],1⟩,⟨7,[47,97],[],[],2⟩,⟨7,[47,97],[],[],0⟩,⟨9,[],[],[],2⟩,⟨14,[],[],[],0⟩]
def awD:Mdl:={sL with rep:=1,next:=1}
def awE:List Ans:=[⟨0,[],[],0,[]⟩,⟨0,[],[],1,[]⟩,⟨0,[],[],0,[]⟩,⟨0,[],[],2,[]⟩,⟨0,[],[],0,[]⟩,⟨192,[],[],0,[]⟩,⟨0,[120],[],0,[]⟩,⟨0,[],[],0,[]⟩,⟨0,[],[],0,[]⟩,⟨0,[],[],0,[⟨2,[47,97,47,102]⟩,⟨3,[47,97,47,102]⟩,⟨1,[47,97,47,102]⟩,⟨1,[47,97]⟩]⟩,⟨0,[],[[102]],0,[]⟩,⟨80,[],[],0,[]⟩,⟨0,[],[],0,[]⟩,⟨180,[],[],0,[]⟩]
theorem aRR:(uA awD awC).2=awE:=by decide+kernel
theorem aRS:(uA awD awC).1.seen=4∧(uA awD awC).1.log.entries.length=4:=by decide+kernel
theorem aWl:∀c∈awC,CS c:=by
 intro c hc
 have h:(awC.all fun c=>decide (c.path.length≤1048576)&&decide (c.to.length≤1048576)&&decide (c.data.length≤1048576))=true:=by decide+kernel
 have:=zAM.1 h c hc
 simp only[zAl,zAr]at this
 exact⟨this.1.1,this.1.2,this.2⟩
theorem aOu{c:Cal}(h:sO c=false):CS c:=by
 unfold sO at h
 simp only[zBw,zAC]at h
 exact⟨by omega,by omega,by omega⟩
theorem aRT{l:List Cal}{n:Int}(h:tY l n=true):(∀c∈l,CS c)∧(l.length:Int)≤n:=by
 unfold tY at h
 simp only[zAl,zAr,zAM,zBc]at h
 exact⟨fun c hc=>aOu (h.1 c hc),h.2⟩
theorem sZ(H:AHeap):bD Tryz.prog 4 [] H (.bool true):=by
 refine fO Tryz.func4 ?_
 have h1:=aFS 1
 have h2:=aFS 64
 rw[show xL 1=(awD,0)from rfl]at h1
 rw[show xL 64=(sL,20)from rfl]at h2
 have hA:=aLE false false false false true awD (aKw (r:=1) rfl) awC (by decide) aWl
 obtain⟨m2,hm2⟩:∃m2,(uA awD awC).1=m2:=⟨_,rfl⟩
 have hB:=aRS
 rw[hm2]at hB
 obtain⟨hs,he⟩:=hB
 rw[hm2,aRR]at hA
 simp only[awC,awE,zAA,zBx,fJ,jX,cY,bC,dN,awD,sL]at hA h1 h2
 repeat' first|(refine gS ?_;simp only[go_sem,bC,dN,hs,he])|refine gA ?_|(refine gD (fun h=>?_) (fun h=>?_)<;>try exact aA h)|fail
 exact dY (.of (zAp AV.bool (by decide)))
end Go.Proofs.YtolbeecicikoaaaGreatDoor
namespace Go.Proofs.YtolbeecicikoaaaGreatDoor
theorem aFU(r:Int)(b1 b2:Bool)(l:List Cal)(ops:List Opn)(H:AHeap):bD Tryz.prog 3 [.int .i64 r,.sl b1 (l.map fJ),.sl b2 (ops.map opA)] H (.bool true):=by
 refine fO Tryz.func3 ?_
 have hfew:=aNu b1 l 30
 have hfew5:=aQS b2 ops 60
 have hnw:=aFS r
 have hrn:=aK6 r
 cases hfe:tY l 30 with
 |false=>
  rw[hfe]at hfew
  have ct0:=sZ;repeat' first|(refine gS ?_;simp only[go_sem])|refine gA ?_|(refine gD (fun h=>?_) (fun h=>?_)<;>try exact aA h)|fail
  exact bL (.refl _)
 |true=>
 rw[hfe]at hfew
 cases hf5:tT ops 60 with
 |false=>
  rw[hf5]at hfew5
  have ct0:=sZ;repeat' first|(refine gS ?_;simp only[go_sem])|refine gA ?_|(refine gD (fun h=>?_) (fun h=>?_)<;>try exact aA h)|fail
  exact bL (.refl _)
 |true=>
 rw[hf5]at hfew5
 obtain⟨hcs,hl30⟩:=aRT hfe
 obtain⟨hS,hl60⟩:=aJ9 hf5
 obtain⟨⟨m0,e0⟩,hnew⟩:∃x,xL r=x:=⟨_,rfl⟩
 rw[hnew]at hnw hrn
 have hs0:=aBj false false false false false false false false m0 m0
 rw[zAd rfl]at hs0
 simp only[bC,dN]at hnw hrn hs0
 by_cases he0:e0=0
 ·subst he0
  have hmi0:=aKw hnew
  have hu0:=aRo hnew
  have ct0:=sZ;repeat' first|(refine gS ?_;simp only[go_sem])|refine gA ?_|(refine gD (fun h=>?_) (fun h=>?_)<;>try exact aA h)|fail
  refine aH (ι:=Nat×Mdl×AHeap) (fun s=>[(1,.sl b1 (l.map fJ)),(2,.sl b2 (ops.map opA)),(7,.bool true),(8,.ref H.length 0 0),(10,.ref (H.length+1) 0 0),(12,.int .i64 s.1)]) (fun s=>H++(.cells 0 (bC false false false false s.2.1).cells::.cells 0 (bC false false false false s.2.1).cells::s.2.2)) (fun s=>s.1≤l.length∧MI s.2.1∧HU s.2.1 (s.1+1)) (fun s=>l.length-s.1) (0,m0,[]) ⟨zAn _,hmi0,by simpa using hu0⟩ ?_ rfl ?_
  ·simp[go_sem]
  rintro⟨k,mk,M⟩ ⟨hk,hmi,hhu⟩
  simp only at hk hmi hhu ⊢
  obtain⟨G,hG⟩:∃G,H++(.cells 0 (bC false false false false mk).cells::.cells 0 (bC false false false false mk).cells::M)=G:=⟨_,rfl⟩
  rw[hG]
  have g0:hget G H.length=.cells 0 (bC false false false false mk).cells:=by rw[←hG];simp only[go_sem]
  have g1:=aR g0 trivial
  have g2:=eE g0 trivial
  have k0:hget G (H.length+1)=.cells 0 (bC false false false false mk).cells:=by rw[←hG];simp only[go_sem]
  have k1:=aR k0 trivial
  have k2:=eE k0 trivial
  by_cases hlt:k<l.length
  ·have hgd:=aJ fJ hlt
   have hcc:=hcs _ (zAF hlt)
   obtain⟨c,hce⟩:∃c,c=l[k]:=⟨_,rfl⟩
   rw[←hce]at hgd hcc
   have hdo:=aPt false false false false mk hmi c hcc
   have hrd:=aOt false false false false mk hmi hhu c hcc
   have hmi2:=aPj hmi c
   have hhu2:=aUo hmi hhu (by omega) c
   obtain⟨⟨m2,a2,o2⟩,hr⟩:∃r,doM mk c=r:=⟨_,rfl⟩
   rw[hr]at hdo hrd hmi2 hhu2
   simp only at hmi2 hhu2
   have hsame:=aBj false false false false false false false false m2 m2
   have hone:=aNw false false false false a2 a2
   have hs5:=aMY false false o2 o2
   rw[zAd rfl]at hsame hone hs5
   simp only[doV,bC,dN,fJ,jX]at hdo hrd hsame hone
   simp only[fJ]at hgd
   have hli:decide ((k:Int)<(l.length:Int))=true:=dT
   have hk0:((0:Int)≤(k:Int))=True:=zAI (by omega)
   have hki:((k:Int)<(l.length:Int))=True:=zAI (by omega)
   have hw':IntKind.i64.wrap ((k:Int)+1)=((k+1:Nat):Int):=aK hlt (by omega)
   obtain⟨G1,hG1⟩:∃G1,aB G H.length (.cells 0 (bC false false false false m2).cells)=G1:=⟨_,rfl⟩
   have e1:H++(.cells 0 (bC false false false false m2).cells::.cells 0 (bC false false false false mk).cells::M)=G1:=by rw[←hG1,←hG];simp only[go_sem]
   have hgl:G.length=G1.length:=by rw[←hG1,aC]
   have q0:∀a L,hget (G1++a::L) G.length=a:=fun a L=>by rw[hgl];simp[hget]
   have q1:∀a c L,hget (G1++a::c::L) (G.length+1)=c:=fun a c L=>by rw[hgl];simp[hget]
   have q2:∀a c d L,hget (G1++a::c::d::L) (G.length+2)=d:=fun a c d L=>by rw[hgl];simp[hget]
   have p0:hget G1 H.length=.cells 0 (bC false false false false m2).cells:=by rw[←e1];simp only[go_sem]
   have p1:hget G1 (H.length+1)=.cells 0 (bC false false false false mk).cells:=by rw[←e1];simp only[go_sem]
   have p2:=aR p0 trivial
   have p3:=aR p1 trivial
   have p4:=eE p1 trivial
   obtain⟨G2,hG2⟩:∃G2,aB G1 (H.length+1) (.cells 0 (bC false false false false m2).cells)=G2:=⟨_,rfl⟩
   have e2:H++(.cells 0 (bC false false false false m2).cells::.cells 0 (bC false false false false m2).cells::M)=G2:=by rw[←hG2,←e1];simp only[go_sem]
   have hgl2:G.length=G2.length:=by rw[←hG2,aC,hgl]
   have r0:∀a c L,hget (G2++a::c::L) (G.length+1)=c:=fun a c L=>by rw[hgl2];simp[hget]
   have r1:∀a c d e L,hget (G2++a::c::d::e::L) (G.length+3)=e:=fun a c d e L=>by rw[hgl2];simp[hget]
   have r2:hget G2 H.length=.cells 0 (bC false false false false m2).cells:=by rw[←e2];simp only[go_sem]
   have r3:hget G2 (H.length+1)=.cells 0 (bC false false false false m2).cells:=by rw[←e2];simp only[go_sem]
   have r4:=aR r2 trivial
   have r5:=aR r3 trivial
   simp only[bC,dN,AV.cells]at hG1 hG2
   repeat' first|((first|refine rI (id:=11) [.pure 3,.free,.free,.pure 3,.pure 3,.pure 3,.free,.free,.free,.free] [.eff [],.eff [],.free] 10 34 42 13 14 tP rfl (by kernel_rfl) (by kernel_rfl) (by kernel_rfl) (by kernel_rfl) ?_|refine rI (id:=12) [.pure 3,.free,.free,.pure 3,.pure 3,.pure 3,.free,.free,.free,.free] [.eff [],.eff [],.free] 10 34 42 16 17 tP rfl (by kernel_rfl) (by kernel_rfl) (by kernel_rfl) (by kernel_rfl) ?_|refine gS ?_);simp only[go_sem,bC,dN,jX,hG1,hG2,q0,q1,q2,p0,p1,p2,p3,p4,r0,r1,r2,r3,r4,r5,g0,g1,g2,k0,k1,k2,hgd,hli,hlt,hki,hk0])|refine gA ?_|(refine gD (fun h=>?_) (fun h=>?_)<;>try exact aA h)|fail
   exact⟨(k+1,m2,M++[.cells 2 (bC false false false false m2).cells,.cells 2 (anF a2).cells,.cells 2 (bC false false false false m2).cells,.cells 2 (anF a2).cells]),⟨hlt,hmi2,by push_cast;exact hhu2⟩,by simp only;omega,zAp _ hw',by rw[←e2];simp[bC,dN,jX,AV.cells]⟩
  ·have hke:k=l.length:=by omega
   have hli:decide ((k:Int)<(l.length:Int))=false:=dF
   have hfit:Fit mk.log ops.length:=⟨fun e he=>yD hmi.good e he,hmi.cap,by have:=hmi.nodes.len;omega⟩
   have hrp:=aIx false false false false b2 mk ops hfit (by omega) hS
   have hrr:=aEv false false false false b2 mk hmi ops hS (by omega)
   obtain⟨m2,hr⟩:∃r,jF mk ops=r:=⟨_,rfl⟩
   rw[hr]at hrp hrr
   have hsame:=aBj false false false false false false false false m2 m2
   rw[zAd rfl]at hsame
   simp only[bC,dN]at hrp hrr hsame
   repeat' first|(refine gS ?_;simp only[go_sem,hli,bC,dN,g0,g1,k0,k1])|refine gA ?_|(refine gD (fun h=>?_) (fun h=>?_)<;>try exact aA h)|fail
   exact aAq hG (by simp only[go_sem]) (.refl _)
 ·have d0:decide (e0=0)=false:=eT he0
  have ct0:=sZ;repeat' first|(refine gS ?_;simp only[go_sem,d0])|refine gA ?_|(refine gD (fun h=>?_) (fun h=>?_)<;>try exact aA h)|fail
  exact dY (.refl _)
end Go.Proofs.YtolbeecicikoaaaGreatDoor

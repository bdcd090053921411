/- The texts 51 of 51 beneath the rows of this seat (joined by program): the abstract machine, and what the functions answer. No condition. -/
import Derived.Test.YthhdnjiodklmmaaGreatDoorWorkBX
set_option linter.unusedSimpArgs false
set_option linter.unusedVariables false
set_option linter.unusedSectionVars false
/- gunwalelaw19.ModelNew and ModelWrites are true. No condition. -/
namespace Go.Gw
open Go Go.Aw Go.Proofs.YthhdnjiodklmmaaGreatDoor
theorem new_law{m:Mdl}(h:MI m){c:Cal}(hk:c.kind=1∨c.kind=2)(h0:(doM m c).2.1.err=0):∃m2 o n,doM m c=(m2,an0,[o])∧m2.log.nodes.length=m.log.nodes.length+1∧(∀x∈m.log.nodes,x.id≠o.node∧x.parent≠o.node)∧childN m2.log.nodes o.parent o.name=some n∧n.id=o.node:=by
 obtain⟨dir,s,k⟩:=aUo h hk h0
 have hl:(tellM m (putM m (bornO m c dir s))).log.nodes=m.log.nodes++[bornN m c dir s]:=k.nodes
 exact⟨_,_,bornN m c dir s,k.does,by rw[hl,List.length_append];rfl,k.new,by rw[hl];exact k.child,rfl⟩
end Go.Gw
namespace Go.Proofs.YthhdnjiodklmmaaGreatDoor
open Go Go.Aw Go.Gw
set_option linter.unusedSimpArgs false
set_option linter.unusedVariables false
set_option maxRecDepth 20000
set_option maxHeartbeats 4000000
theorem mnew19_c(b:Bool)(l:List Cal)(path:Txt)(fl:Bool)(H:AHeap):cJ Tryz.prog 7 [.sl b (l.map gZ),.str path,.bool fl] H (.bool true):=by
 refine aL Tryz.func7 rfl (Nat.le_of_ble_eq_true rfl) ?_
 have hfew:=kZ b l 30
 have hnw:=mR 0
 obtain⟨m0,hm0⟩:∃m0,({md0 with rep:=0,next:=1}:Mdl)=m0:=⟨_,rfl⟩
 have hnew:oI 0=(m0,0):=by rw[←hm0];rfl
 have hmi0:=nQ hnew
 rw[hnew]at hnw
 simp only[cC,iW]at hnw
 cases hfe:iX l 30 with
 |false=>
  rw[hfe]at hfew
  have ct0:=ct bU bT;have ct1:=ct hnw bH;have ct2:=ct hfew bF;repeat' first|((first|refine gK ?_|refine gS ?_);simp only[go_sem])|refine gA ?_|(refine gD (fun h=>?_) (fun h=>?_)<;>try exact aA h)|fail
  exact done (by simp only[go_sem]) (.refl _)
 |true=>
  rw[hfe]at hfew
  obtain⟨hcs,hl30⟩:=nR hfe
  by_cases hp:path.length≤1000
  ·have hpl:decide ((1000:Int)<(path.length:Int))=false:=decide_eq_false (by omega)
   have hall:=qY false false false false b m0 hmi0 l (by omega) hcs
   obtain⟨⟨m1,las⟩,hr1⟩:∃r,nP m0 l=r:=⟨_,rfl⟩
   have hmi1:=aCI l hmi0
   rw[hr1]at hall hmi1
   simp only[cC,iW]at hall hmi1
   obtain⟨c,hc⟩:∃c,aG (bif fl then 1 else 2) path 0=c:=⟨_,rfl⟩
   have hck:c.kind=1∨c.kind=2:=by rw[←hc];cases fl<;>simp[aG]
   have hcc:CS c:=by rw[←hc];exact⟨by simp only[aG];omega,by simp[aG],by simp[aG]⟩
   have hdo:=jA false false false false m1 hmi1 c hcc
   by_cases he:(doM m1 c).2.1.err=0
   ·obtain⟨m2,o,n,q1,q2,q3,q4,q5⟩:=new_law hmi1 hck he
    have hcap:=hmi1.nodes.len
    have hch:=yV false m2.log.nodes o.parent o.name (by omega)
    rw[q1]at hdo
    rw[q4]at hch
    simp only[qH,Option.map_some,Option.getD_some,Option.isSome_some,q5]at hch
    simp only[doV,cC,iW,iD,an0,←hc,gZ,aG]at hdo
    have hq2:IntKind.i64.wrap ((m1.log.nodes.length:Int)+1)=(m2.log.nodes.length:Int):=by rw[wrap_i64 (by omega) (by omega)];omega
    cases fl
    all_goals
     simp only[cond_true,cond_false]at hdo
     have ct0:=ct bU bT;have ct1:=ct hnw bH;have ct2:=ct hfew bF;have ct3:=ct hall jM;have ct4:=ct hdo aN;repeat' first|((first|refine gK ?_|refine gS ?_);simp only[go_sem,hpl,opA])|refine gA ?_|(refine gD (fun h=>?_) (fun h=>?_)<;>try exact aA h)|fail
     refine aP (ι:=Nat) (fun k=>[(7,.bool true),(8,.ref H.length 0 0),(11,.ref (H.length+2) 0 0),(13,.sl false [opA o]),(14,.int .i64 k)]) (fun _=>_) (fun k=>k≤m1.log.nodes.length) (fun k=>m1.log.nodes.length-k) 0 (Nat.zero_le _) ?_ rfl ?_
     ·simp[go_sem,opA]
     intro k hk
     by_cases hlt:k<m1.log.nodes.length
     ·have hgd:=bA ndA hlt
      simp only[ndA]at hgd
      obtain⟨d1,d2⟩:=q3 _ (List.getElem_mem hlt)
      have d1:=decide_eq_false d1
      have d2:=decide_eq_false d2
      have hli:decide ((k:Int)<(m1.log.nodes.length:Int))=true:=decide_eq_true (by omega)
      have hk0:((0:Int)≤(k:Int))=True:=eq_true (by omega)
      have hki:((k:Int)<(m1.log.nodes.length:Int))=True:=eq_true (by omega)
      repeat' first|(refine gS ?_;simp only[go_sem,hgd,hli,hlt,hki,hk0,d1,d2,opA])|refine gA ?_|(refine gD (fun h=>?_) (fun h=>?_)<;>try exact aA h)|fail
      exact⟨k+1,hlt,by omega,congrArg _ (bD hlt (by omega))⟩
     ·have hke:k=m1.log.nodes.length:=by omega
      subst hke
      have hli:decide ((m1.log.nodes.length:Int)<(m1.log.nodes.length:Int))=false:=by simp
      have ct0:=ct hch gY;repeat' first|((first|refine gK ?_|refine gS ?_);simp only[go_sem,hli,opA,hq2])|refine gA ?_|(refine gD (fun h=>?_) (fun h=>?_)<;>try exact aA h)|fail
      exact done (by simp only[go_sem]) (.refl _)
   ·obtain⟨⟨m2,a2,o2⟩,hr2⟩:∃r,doM m1 c=r:=⟨_,rfl⟩
    rw[hr2]at hdo he
    simp only[doV,cC,iW,iD,←hc,gZ,aG]at hdo he
    have de:decide (a2.err=0)=false:=decide_eq_false he
    cases fl
    all_goals
     simp only[cond_true,cond_false]at hdo
     have ct0:=ct bU bT;have ct1:=ct hnw bH;have ct2:=ct hfew bF;have ct3:=ct hall jM;have ct4:=ct hdo aN;repeat' first|((first|refine gK ?_|refine gS ?_);simp only[go_sem,hpl,de])|refine gA ?_|(refine gD (fun h=>?_) (fun h=>?_)<;>try exact aA h)|fail
     exact done (by simp only[go_sem]) (.refl _)
  ·have hpl:decide ((1000:Int)<(path.length:Int))=true:=decide_eq_true (by omega)
   have ct0:=ct bU bT;have ct1:=ct hnw bH;have ct2:=ct hfew bF;repeat' first|((first|refine gK ?_|refine gS ?_);simp only[go_sem,hpl])|refine gA ?_|(refine gD (fun h=>?_) (fun h=>?_)<;>try exact aA h)|fail
   exact done (by simp only[go_sem]) (.refl _)
theorem mwrites19_c(b:Bool)(l:List Cal)(path data:Txt)(H:AHeap):cJ Tryz.prog 6 [.sl b (l.map gZ),.str path,.str data] H (.bool true):=by
 refine aL Tryz.func6 rfl (Nat.le_of_ble_eq_true rfl) ?_
 have hfew:=kZ b l 30
 have hnw:=mR 0
 obtain⟨m0,hm0⟩:∃m0,({md0 with rep:=0,next:=1}:Mdl)=m0:=⟨_,rfl⟩
 have hnew:oI 0=(m0,0):=by rw[←hm0];rfl
 have hmi0:=nQ hnew
 rw[hnew]at hnw
 simp only[cC,iW]at hnw
 cases hfe:iX l 30 with
 |false=>
  rw[hfe]at hfew
  have ct0:=ct bU bT;have ct1:=ct hnw bH;have ct2:=ct hfew bF;repeat' first|((first|refine gK ?_|refine gS ?_);simp only[go_sem])|refine gA ?_|(refine gD (fun h=>?_) (fun h=>?_)<;>try exact aA h)|fail
  exact done (by simp only[go_sem]) (.refl _)
 |true=>
  rw[hfe]at hfew
  obtain⟨hcs,hl30⟩:=nR hfe
  by_cases hp:path.length≤1000
  ·have hpl:decide ((1000:Int)<(path.length:Int))=false:=decide_eq_false (by omega)
   by_cases hd:data.length≤1000
   ·have hdl:decide ((1000:Int)<(data.length:Int))=false:=decide_eq_false (by omega)
    have hall:=qY false false false false b m0 hmi0 l (by omega) hcs
    obtain⟨⟨m1,las⟩,hr1⟩:∃r,nP m0 l=r:=⟨_,rfl⟩
    have hmi1:=aCI l hmi0
    rw[hr1]at hall hmi1
    simp only[cC,iW]at hall hmi1
    have hcc:∀k,CS (aG k path 0):=fun k=>⟨by simp only[aG];omega,by simp[aG],by simp[aG]⟩
    have h3:=jA false false false false m1 hmi1 ⟨3,path,[],data,0⟩ ⟨by simp only;omega,by simp,by simp only;omega⟩
    have hmi3:=nH hmi1 ⟨3,path,[],data,0⟩
    have w3:=aDF hmi1 (c:=⟨3,path,[],data,0⟩) rfl
    obtain⟨⟨m3,a3,o3⟩,r3⟩:∃r,doM m1 ⟨3,path,[],data,0⟩=r:=⟨_,rfl⟩
    rw[r3]at h3 hmi3 w3
    have h4:=jA false false false false m3 hmi3 (aG 4 path 0) (hcc _)
    obtain⟨⟨m4,a4,o4⟩,r4⟩:∃r,doM m3 (aG 4 path 0)=r:=⟨_,rfl⟩
    simp only[r4]at h4 w3
    have h2:=jA false false false false m1 hmi1 (aG 2 path 0) (hcc _)
    have hmi2:=nH hmi1 (aG 2 path 0)
    have w2:=aFb hmi1 (c:=aG 2 path 0) rfl
    obtain⟨⟨m2,a2,o2⟩,r2⟩:∃r,doM m1 (aG 2 path 0)=r:=⟨_,rfl⟩
    rw[r2]at h2 hmi2 w2
    have h7:=jA false false false false m2 hmi2 (aG 7 path 0) (hcc _)
    have h1:=jA false false false false m2 hmi2 (aG 1 path 0) (hcc _)
    obtain⟨⟨m7,a7,o7⟩,r7⟩:∃r,doM m2 (aG 7 path 0)=r:=⟨_,rfl⟩
    obtain⟨⟨m8,a8,o8⟩,r8⟩:∃r,doM m2 (aG 1 path 0)=r:=⟨_,rfl⟩
    rw[r7]at h7
    rw[r8]at h1
    have e2:(aG 2 path 0).path=path:=rfl
    simp only[e2,r7,r8]at w2
    simp only[doV,cC,iW,iD,gZ,aG]at h1 h2 h3 h4 h7
    have w3':a3.err=0→a4.err=0∧a4.data=data:=fun e=>by have:=w3 e;rw[this];exact⟨rfl,rfl⟩
    have w2':a2.err=0→a7.err=0∧a7.names.length=0∧a8.err=190:=fun e=>by obtain⟨x,y⟩:=w2 e;rw[x,y];exact⟨rfl,rfl,rfl⟩
    have q3:(!decide (a3.err=0)||decide (a4.err=0)&&decide (a4.data=data))=true:=by
     by_cases x:a3.err=0
     ·obtain⟨p,q⟩:=w3' x;simp[p,q]
     ·simp[x]
    have q2:(!decide (a2.err=0)||decide (a7.err=0)&&decide ((a7.names.length:Int)=0)&&decide (a8.err=190))=true:=by
     by_cases x:a2.err=0
     ·obtain⟨p,q,r⟩:=w2' x;simp[p,q,r]
     ·simp[x]
    have ct0:=ct bU bT;have ct1:=ct hnw bH;have ct2:=ct hfew bF;have ct3:=ct hall jM;have ct4:=ct h1 aN;have ct5:=ct h2 aN;have ct6:=ct h3 aN;have ct7:=ct h4 aN;have ct8:=ct h7 aN;repeat' first|((first|refine gK ?_|refine gS ?_);simp only[go_sem,hpl,hdl])|refine gA ?_|(refine gD (fun h=>?_) (fun h=>?_)<;>try exact aA h)|fail
    exact done (by simp only[go_sem]) (.of (by rw[q3,q2];rfl))
   ·have hdl:decide ((1000:Int)<(data.length:Int))=true:=decide_eq_true (by omega)
    have ct0:=ct bU bT;have ct1:=ct hnw bH;have ct2:=ct hfew bF;repeat' first|((first|refine gK ?_|refine gS ?_);simp only[go_sem,hpl,hdl])|refine gA ?_|(refine gD (fun h=>?_) (fun h=>?_)<;>try exact aA h)|fail
    exact done (by simp only[go_sem]) (.refl _)
  ·have hpl:decide ((1000:Int)<(path.length:Int))=true:=decide_eq_true (by omega)
   have ct0:=ct bU bT;have ct1:=ct hnw bH;have ct2:=ct hfew bF;repeat' first|((first|refine gK ?_|refine gS ?_);simp only[go_sem,hpl])|refine gA ?_|(refine gD (fun h=>?_) (fun h=>?_)<;>try exact aA h)|fail
   exact done (by simp only[go_sem]) (.refl _)
end Go.Proofs.YthhdnjiodklmmaaGreatDoor

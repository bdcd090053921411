/- The texts 50 of 51 beneath the rows of this seat (joined by program): the abstract machine, and what the functions answer. No condition. -/
import Derived.Test.YthhdnjiodklmmaaGreatDoorWorkBB
import Derived.Test.YthhdnjiodklmmaaGreatDoorWorkBW
set_option linter.unusedSimpArgs false
set_option linter.unusedVariables false
set_option linter.unusedSectionVars false
/- gunwalelaw19.awake is true. No condition. -/
namespace Go.Gw
open Go Go.Aw Go.Proofs.YthhdnjiodklmmaaGreatDoor
def awC:List Cal:=[⟨2,[47,97],[],[],0⟩,⟨10,[47],[],[],0⟩,⟨1,[47,97,47,102],[],[],0⟩,⟨8,[],[],[],0⟩,⟨3,[47,97,47,102],[],[120],0⟩,⟨5,[47,97],[47,97,47,98],[],0⟩,⟨4,[47,97,47,102],[],[],0⟩,⟨4,[47,97,47,102],[],[],2⟩,⟨6,[47,97],[],[],0⟩,⟨11,[],[],[],1⟩,⟨7,[47,97],[],[],2⟩,⟨7,[47,97],[],[],0⟩,⟨9,[],[],[],2⟩,⟨14,[],[],[],0⟩]
def awD:Mdl:={md0 with rep:=1,next:=1}
def awE:List Ans:=[⟨0,[],[],0,[]⟩,⟨0,[],[],1,[]⟩,⟨0,[],[],0,[]⟩,⟨0,[],[],2,[]⟩,⟨0,[],[],0,[]⟩,⟨192,[],[],0,[]⟩,⟨0,[120],[],0,[]⟩,⟨0,[],[],0,[]⟩,⟨0,[],[],0,[]⟩,⟨0,[],[],0,[⟨2,[47,97,47,102]⟩,⟨3,[47,97,47,102]⟩,⟨1,[47,97,47,102]⟩,⟨1,[47,97]⟩]⟩,⟨0,[],[[102]],0,[]⟩,⟨80,[],[],0,[]⟩,⟨0,[],[],0,[]⟩,⟨180,[],[],0,[]⟩]
set_option maxRecDepth 100000 in
theorem aRc:(nP awD awC).2=awE:=by decide+kernel
set_option maxRecDepth 100000 in
theorem aRd:(nP awD awC).1.seen=4∧(nP awD awC).1.log.entries.length=4:=by decide+kernel
theorem aWc:∀c∈awC,CS c:=by
 intro c hc
 have h:(awC.all fun c=>decide (c.path.length≤1048576)&&decide (c.to.length≤1048576)&&decide (c.data.length≤1048576))=true:=by decide+kernel
 have:=List.all_eq_true.1 h c hc
 simp only[Bool.and_eq_true,decide_eq_true_eq]at this
 exact⟨this.1.1,this.1.2,this.2⟩
theorem aNc{c:Cal}(h:rQ c=false):CS c:=by
 unfold rQ at h
 simp only[Bool.or_eq_false_iff,decide_eq_false_iff_not]at h
 exact⟨by omega,by omega,by omega⟩
theorem nR{l:List Cal}{n:Int}(h:iX l n=true):(∀c∈l,CS c)∧(l.length:Int)≤n:=by
 unfold iX at h
 simp only[Bool.and_eq_true,decide_eq_true_eq,List.all_eq_true,Bool.not_eq_true']at h
 exact⟨fun c hc=>aNc (h.1 c hc),h.2⟩
end Go.Gw
namespace Go.Proofs.YthhdnjiodklmmaaGreatDoor
open Go Go.Aw Go.Gw
set_option linter.unusedSimpArgs false
set_option linter.unusedVariables false
set_option maxRecDepth 20000
set_option maxHeartbeats 4000000
theorem bU(H:AHeap):cJ Tryz.prog 11 [] H (.bool true):=by
 refine aL Tryz.func11 rfl (Nat.le_of_ble_eq_true rfl) ?_
 have h1:=mR 1
 have h2:=mR 64
 rw[show oI 1=(awD,0)from rfl]at h1
 rw[show oI 64=(md0,20)from rfl]at h2
 have hA:=qY false false false false true awD (nQ (r:=1) rfl) awC (by decide) aWc
 obtain⟨m2,hm2⟩:∃m2,(nP awD awC).1=m2:=⟨_,rfl⟩
 have hB:=aRd
 rw[hm2]at hB
 obtain⟨hs,he⟩:=hB
 rw[hm2,aRc]at hA
 simp only[awC,awE,List.map_cons,List.map_nil,gZ,iD,gF,cC,iW,awD,md0]at hA h1 h2
 have ct0:=ct h1 bH;have ct1:=ct h2 bH;have ct2:=ct hA jM;repeat' first|((first|refine gK ?_|refine gS ?_);simp only[go_sem,cC,iW,hs,he])|refine gA ?_|(refine gD (fun h=>?_) (fun h=>?_)<;>try exact aA h)|fail
 exact done (by simp only[go_sem]) (.of (congrArg AV.bool (by decide)))
end Go.Proofs.YthhdnjiodklmmaaGreatDoor

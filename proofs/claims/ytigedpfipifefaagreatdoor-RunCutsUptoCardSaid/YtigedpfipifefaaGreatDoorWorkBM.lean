/- What the functions of this seat answer (39 of 40). No condition. -/
import Derived.Test.YtigedpfipifefaaGreatDoorWorkBH
import Derived.Test.YtigedpfipifefaaGreatDoorWorkBL
set_option linter.unusedSimpArgs false
set_option linter.unusedVariables false
set_option maxRecDepth 100000
set_option maxHeartbeats 16000000
namespace Go.Proofs.YtigedpfipifefaaGreatDoor
def aAC(p:Option (Int×Int×List Ord)):AV:=match p with
 |none=>.tup [.str [],.int .i64 240]
 |some (r,s,_)=>if(sQ r s).2=0 then .tup [.str [2,0,0],.int .i64 0]else .tup [.str [],.int .i64 (sQ r s).2]
theorem aJ1(r s:Int):(sQ r s).1.c.ths=[]∧(sQ r s).1.c.m.log.nodes=[]:=by
 unfold sQ yC yB
 (repeat' split)<;>exact⟨rfl,rfl⟩
theorem aAD(b:Txt)(hb:b.length≤1048576)(h0:cW b=none∨∃r s,cW b=some (r,s,[]))(H:AHeap):bJ Tryz.prog 14 [.str b] H (aAC (cW b)):=by
 refine fO Tryz.func14 ?_;have hr:=nO b hb;rcases h0 with h0|⟨r,s,h0⟩
 ·rw[h0]at hr ⊢;simp only[sA,aAC]at hr ⊢;repeat' first|(refine gS ?_;simp only[go_sem])|refine gA ?_|(refine gD ?_ ?_<;>intro h<;>try exact aD h)|fail
  exact cU (.of rfl)
 ·rw[h0]at hr ⊢;simp only[sA,aAC,zBr]at hr ⊢;have hx:=aJZ r s;obtain⟨n1,n2⟩:=aJ1 r s;generalize sQ r s=X at *;obtain⟨x,e⟩:=X;have ht:=aGJ x n1 n2;simp only at n1 n2 hx ht ⊢;unfold dmA dmF at hx ht;by_cases he:e=0
  ·subst he;rw[zAp rfl];repeat' first|(refine gS ?_;simp only[go_sem,zBr])|refine gA ?_|(refine gD ?_ ?_<;>intro h<;>try exact aD h)|fail
   refine jG (v:=0) (cs:=[.sl true []]) (H.length+1) 0 1 (by simp only[go_sem]) rfl ?_
   simp only[go_sem];repeat' first|(refine gS ?_;simp only[go_sem])|refine gA ?_|(refine gD ?_ ?_<;>intro h<;>try exact aD h)|fail
   refine sD ?_;repeat' first|(refine gS ?_;simp only[go_sem])|refine gA ?_|(refine gD ?_ ?_<;>intro h<;>try exact aD h)|fail
   refine aG (aBg [0,0] (WR.new1 H _ []) (by simp) (by simp)) (cO) ?_
   rintro v H' ⟨rfl,k,rfl⟩;rw[nQ,show([]:Txt)++bW [0,0]=[2,0,0] by decide+kernel]
   unfold wrC;simp only[go_sem];repeat' first|(refine gS ?_;simp only[go_sem])|refine gA ?_|(refine gD ?_ ?_<;>intro h<;>try exact aD h)|fail
   rw[show List.take 3 (bA [2,0,0])=bA [2,0,0]from rfl]
   simp only[go_sem];repeat' first|(refine gS ?_;simp only[go_sem])|refine gA ?_|(refine gD ?_ ?_<;>intro h<;>try exact aD h)|fail
   exact dY (.refl _)
  ·have hd:decide (e=0)=false:=zAh he;rw[zAk he];repeat' first|(refine gS ?_;simp only[go_sem,zBr,hd])|refine gA ?_|(refine gD ?_ ?_<;>intro h<;>try exact aD h)|fail
   exact dY (.refl _)
def sR:List Ord:=[⟨1,⟨2,[47,97],[],[],0⟩,0,[]⟩,⟨2,gR,300,[]⟩,⟨3,gR,0,[]⟩,⟨4,gR,0,[120]⟩]
def aGK:Txt:=[1,8,1,2,2,47,97,2,130,44,3,4,1,120]
theorem uK(H:AHeap):bJ Tryz.prog 8 [] H (.bool true):=by
 have hos:∀o∈sR,OS o:=by
  intro o ho;simp only[sR,zAC,zBl,or_false]at ho;rcases ho with rfl|rfl|rfl|rfl<;>exact⟨by decide,by decide,by decide,by decide,by decide,by decide⟩
 have h1:=lD true 1 8 sR (by decide) (by decide) hos (by decide)
 have e1:eD 1 8 sR=some aGK:=by decide+kernel
 have h2:=nO aGK (by decide)
 have e2:cW aGK=some (1,8,sR):=by decide+kernel
 have h3:=aAD [0,8] (by decide) (.inr ⟨0,8,by decide+kernel⟩)
 have e3:aAC (cW [0,8])=.tup [.str [2,0,0],.int .i64 0]:=by
  rw[show cW [0,8]=some (0,8,[]) by decide+kernel]
  exact zAp (by decide+kernel)
 have h4:=aAD [0,2] (by decide) (.inr ⟨0,2,by decide+kernel⟩)
 have e4:aAC (cW [0,2])=.tup [.str [],.int .i64 120]:=by
  rw[show cW [0,2]=some (0,2,[]) by decide+kernel]
  have h:(sQ 0 2).2=120:=by decide+kernel
  simp only[aAC];rw[zAk (by rw[h];decide),h]
 have h5:=aAD [0] (by decide) (.inl (by decide+kernel))
 have e5:aAC (cW [0])=.tup [.str [],.int .i64 240]:=by
  rw[show cW [0]=none by decide+kernel]
  rfl
 have h6:=lD true 64 8 [] (by decide) (by decide) (by simp) (by decide)
 have e6:eD 64 8 []=none:=by decide+kernel
 have h7:=fZ sR.head! (by decide) (by decide)
 have e7:bZ sR.head! =true:=by decide+kernel
 have h8:=fZ aAw (by decide) (by decide)
 have e8:bZ aAw=false:=by decide+kernel
 have h9:=rV false true sR sR;rw[e1]at h1;rw[e2]at h2;rw[e3]at h3;rw[e4]at h4;rw[e5]at h5;rw[e6]at h6;rw[e7]at h7;rw[e8]at h8;rw[zAg rfl]at h9;refine fO Tryz.func8 ?_;simp only[sR,aGK,rW,sA,zAV,zBr,eH,pB,gR,aAw,List.head!]at h1 h2 h3 h4 h5 h6 h7 h8 h9;repeat' first|(refine gS ?_;simp only[go_sem])|refine gA ?_|(refine gD ?_ ?_<;>intro h<;>try exact aD h)|fail
 exact cU (.of rfl)
end Go.Proofs.YtigedpfipifefaaGreatDoor

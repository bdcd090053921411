/- The texts 13 of 53 beneath the rows of this seat (joined by program): the abstract machine, and what the functions answer. No condition. -/
import Derived.Test.YtolbeecicikoaaaGreatDoorWorkAI
import Derived.Test.YtolbeecicikoaaaGreatDoorWorkAK
set_option linter.unusedSimpArgs false
set_option linter.unusedVariables false
set_option linter.unusedSectionVars false
set_option maxRecDepth 100000
set_option maxHeartbeats 16000000
namespace Go.Proofs.YtolbeecicikoaaaGreatDoor
theorem aHG(b:Bool)(l:List Nd)(dir:Int)(y:Nat)(J:Nat→AHeap→Prop)(hA:∀i G L,J i G→J i (G++L))
  (hN:∀i (h:i<l.length) G,J i G→zN dir l[i]=false→J (i+1) G)
  (hY:∀i (h:i<l.length) G,J i G→zN dir l[i]=true→AYield Tryz.prog y [ndA l[i]] G (fun v G'=>v=.bool true∧J (i+1) G')) (hl:l.length≤1073741824) (H:AHeap) (h0:J 0 H):
  ACalls Tryz.prog 203 [.func (.yield y) [] [],.cptr [.sl b (l.map ndA)],.cptr [.int .i64 dir]] H (fun _ G=>J l.length G):=by
 refine aW Tryz.func203 ?_
 repeat' first|(refine gS ?_;simp only[go_sem])|refine gA ?_|(refine gD (fun h=>?_) (fun h=>?_)<;>try exact aA h)|fail
 refine aH (ι:=Nat×AHeap) (fun p=>[(0,.func (.yield y) [] []),(2,.cptr [.int .i64 dir]),(6,.sl b (l.map ndA)),(7,.int .i64 l.length),(8,.int .i64 p.1)]) (fun p=>p.2) (fun p=>p.1≤l.length∧J p.1 p.2) (fun p=>l.length-p.1) (0,H) ⟨zAn _,h0⟩ ?_ rfl ?_
 ·simp[go_sem]
 ·rintro⟨i,G⟩ ⟨hi,hJ⟩
  simp only at hi hJ ⊢
  by_cases hlt:i<l.length
  ·have hp:=aJ ndA hlt
   have hli:decide ((i:Int)<(l.length:Int))=true:=dT
   have hw:=aK hlt (by omega)
   have hck:=pS l[i].moved.c l[i].moved.r
   by_cases h1:l[i].parent=dir
   ·have hd:decide (l[i].parent=dir)=true:=zAd h1
    cases h2:zM l[i].moved.c l[i].moved.r with
    |false=>
     rw[h2]at hck
     repeat' first|(refine gS ?_;simp only[go_sem,hp,hli,hd,ndA])|refine gA ?_|(refine gD (fun h=>?_) (fun h=>?_)<;>try exact aA h)|fail
     exact⟨(i+1,_),⟨hlt,hN i hlt _ (hA _ _ _ hJ) (by simp[zN,h2])⟩,by simp only;omega,zAp _ hw,rfl⟩
    |true=>
     rw[h2]at hck
     have hy:=hY i hlt _ (hA i G [.cells 0 (ndA l[i]).cells] hJ) (by simp[zN,h1,h2])
     repeat' first|(refine gS ?_;simp only[go_sem,hp,hli,hd,ndA])|refine gA ?_|(refine gD (fun h=>?_) (fun h=>?_)<;>try exact aA h)|fail
     refine rH hy ?_
     rintro v G' ⟨rfl,hJ'⟩
     simp only[go_sem]
     repeat' first|(refine gS ?_;simp only[go_sem])|refine gA ?_|(refine gD (fun h=>?_) (fun h=>?_)<;>try exact aA h)|fail
     exact⟨(i+1,G'),⟨hlt,hJ'⟩,by simp only;omega,zAp _ hw,rfl⟩
   ·have hd:decide (l[i].parent=dir)=false:=eT h1
    repeat' first|(refine gS ?_;simp only[go_sem,hp,hli,hd,ndA])|refine gA ?_|(refine gD (fun h=>?_) (fun h=>?_)<;>try exact aA h)|fail
    exact⟨(i+1,_),⟨hlt,hN i hlt _ (hA _ _ _ hJ) (by simp[zN,h1])⟩,by simp only;omega,zAp _ hw,rfl⟩
  ·have hie:i=l.length:=by omega
   subst hie
   repeat' first|(refine gS ?_;simp only[go_sem])|refine gA ?_|(refine gD (fun h=>?_) (fun h=>?_)<;>try exact aA h)|fail
   exact hJ
theorem aUd(k:Nat)(b:Bool)(l:List Nd):Cl k (.sl b (l.map ndA)):=(Pur.sl b _ (aCy l)).cl k
theorem aJZ(b:Bool)(l:List Nd)(dir:Int)(H:AHeap):bD Tryz.prog 178 [.sl b (l.map ndA),.int .i64 dir] H (.func (.func 203) [] [.cptr [.sl b (l.map ndA)],.cptr [.int .i64 dir]]):=by
 refine fO Tryz.func178 ?_
 repeat' first|(refine gS ?_;simp only[go_sem])|refine gA ?_|(refine gD (fun h=>?_) (fun h=>?_)<;>try exact aA h)|fail
 refine⟨_,_,rfl,?_,rfl⟩
 refine .func _ _ _ _ _ rfl rfl cI (aS (zS (zAh _) (by simp only[go_sem]) ?_) (aS (zS (by omega) (by simp only[go_sem]) ?_) cI))
 ·simp only[zAx,forall_eq];exact aUd _ _ _
 ·simp only[zAx,forall_eq];exact .int _ _
theorem aJ0(b:Bool)(l:List Nd)(dir:Int)(hl:l.length≤1073741824)(H:AHeap):
  ACalls Tryz.prog 149 [.sl b (l.map ndA),.int .i64 dir] H (fun v H'=>v=.map H.length∧H'=H++[.map (pX 0 (cG l dir)) (cG l dir).length]):=by
 refine aQ Tryz.func149 ?_
 repeat' first|((first|refine gQ (aJZ _ _ _) ?_|refine gS ?_);simp only[go_sem])|refine gA ?_|(refine gD (fun h=>?_) (fun h=>?_)<;>try exact aA h)|fail
 refine aJv [(5,.ref (H.length+1) 0 0),(12,.func (.func 203) [] [.cptr [.sl b (l.map ndA)],.cptr [.int .i64 dir]])] (by simp[go_sem]) ?_
 refine uT rfl (cO) fun y LB hLB=>?_
 have hlen2:(H++[ABlk.map [] 0,.cells 0 [.map H.length]]).length=H.length+2:=by simp
 rw[hlen2,zAu]
 let M:Nat→List (Txt×Nd):=fun i=>(l.take i).foldl (lV dir) []
 let J:Nat→AHeap→Prop:=fun i G=>∃L,G=(H++[.map (pX 0 (M i)) (M i).length,.cells 0 [.map H.length],LB])++L
 have hM:∀i (h:i<l.length),M (i+1)=lV dir (M i) l[i]:=fun i h=>by
  simp only[M];rw[zAa h,zBL];rfl
 refine(aHG b l dir y J (fun i G L ⟨L',e⟩=>⟨L'++L,by rw[e,zAu]⟩) (fun i h G ⟨L,e⟩ hd=>⟨L,by rw[e,hM i h,lV,zAb (by rw[hd];simp)]⟩) (fun i h G ⟨L,e⟩ hd=>?_) hl _ ⟨[],by simp[M,pX]⟩).mono fun _ G ⟨L,e⟩=>?_
 ·have hmi:=hM i h
  rw[lV,zAc hd]at hmi
  have e1:hget G H.length=.map (pX 0 (M i)) (M i).length:=by rw[e];exact aG (b:=.map _ _) (by simp only[go_sem]) trivial L
  have e2:hget G (H.length+1)=.cells 0 [.map H.length]:=by rw[e];exact aG (b:=.cells _ _) (by simp only[go_sem]) trivial L
  have e3:hget G (H.length+2)=LB:=by rw[e];exact aG (by simp only[go_sem]) (by rw[hLB];trivial) L
  have hlv:LB.live:=by rw[hLB];trivial
  refine aBI e3 hLB rfl rfl rfl rfl fun BB fin hBB hlB hf1 hf2=>?_
  have f3:=aR e3 hlv
  have g3:=eE e3 hlv
  simp only[aAx]
  refine kS rfl ?_
  simp only[go_sem,f3,g3,ndA]
  obtain⟨G1,hG1⟩:∃G1,aB G (H.length+2) BB=G1:=⟨_,rfl⟩
  rw[hG1]
  have hl3:=aU e3 hlv
  have hlen:G.length=G1.length:=by rw[←hG1];simp[aB]
  have a1:hget G1 H.length=.map (pX 0 (M i)) (M i).length:=by rw[←hG1];exact aT e1 (by omega) BB
  have a2:hget G1 (H.length+1)=.cells 0 [.map H.length]:=by rw[←hG1];exact aT e2 (by omega) BB
  have a3:hget G1 (H.length+2)=BB:=by rw[←hG1];exact cJ hl3 BB
  have k1:=aR a1 trivial
  have k2:=aR a2 trivial
  have k3:=aR a3 hlB
  have s1:=eE a1 trivial
  rw[hlen]
  have hks:keysIn .string (pX 0 (M i))=True:=zAI (aDA 0 _)
  clear hLB hBB hf2
  have hno:∀Y,M (i+1)=M i→pR (H.length+2) BB fin G1 (fun v G'=>v=.bool true∧J (i+1) G') true none (G1++Y):=fun Y hY=>
   ⟨k3 _,G1,Y,rfl,rfl,fun _ _ h=>.inl h,rfl,L,by rw[hf1,←hG1,cS,gW e3 hlv,hY];exact e⟩
  have hyes:∀Y,M (i+1)=gL l[i].name l[i] (M i)→pR (H.length+2) BB fin G1 (fun v G'=>v=.bool true∧J (i+1) G') true none
    (aB G1 H.length (.map (iX (.str l[i].name) (ndA l[i]) (pX 0 (M i)) (M i).length) (mY (.str l[i].name) (pX 0 (M i)) (M i).length))++Y):=fun Y hY=>by
   rw[aJI,←hY]
   refine⟨aR (aT a3 (by omega) _) hlB _,_,Y,rfl,by rw[aC],nD (aJJ _ _ _),rfl,L,?_⟩
   rw[hf1,←hG1,kW _ _ _ (by omega),cS,gW e3 hlv,e]
   simp[aB,zB2]
  rcases aJH 0 (M i) l[i].name with⟨q1,q2⟩|⟨o,j,q1,q2⟩
  ·repeat' first|(refine gS ?_;simp only[go_sem,k1,k2,k3,s1,hks,q2,ndA])|refine gA ?_|(refine gD (fun h=>?_) (fun h=>?_)<;>try exact aA h)|fail
   exact hyes _ (by rw[hmi,rL,q1])
  ·have hless:=aEV l[i].moved.c l[i].moved.r o.moved.c o.moved.r
   cases hlt:iI l[i].moved.c l[i].moved.r o.moved.c o.moved.r with
   |true=>
    rw[hlt]at hless
    repeat' first|(refine gS ?_;simp only[go_sem,k1,k2,k3,s1,hks,q2,ndA])|refine gA ?_|(refine gD (fun h=>?_) (fun h=>?_)<;>try exact aA h)|fail
    exact hno _ (by rw[hmi,rL,q1];exact zAc hlt)
   |false=>
    rw[hlt]at hless
    repeat' first|(refine gS ?_;simp only[go_sem,k1,k2,k3,s1,hks,q2,ndA])|refine gA ?_|(refine gD (fun h=>?_) (fun h=>?_)<;>try exact aA h)|fail
    exact hyes _ (by rw[hmi,rL,q1];exact zAb (by rw[hlt];simp))
 ·have hml:M l.length=cG l dir:=by simp only[M];rw[zAq];rfl
  rw[hml]at e
  have e1:hget G H.length=.map (pX 0 (cG l dir)) (cG l dir).length:=by rw[e];exact aG (b:=.map _ _) (by simp only[go_sem]) trivial L
  have e2:hget G (H.length+1)=.cells 0 [.map H.length]:=by rw[e];exact aG (b:=.cells _ _) (by simp only[go_sem]) trivial L
  have e3:hget G (H.length+2)=LB:=by rw[e];exact aG (by simp only[go_sem]) (by rw[hLB];trivial) L
  refine .inl ⟨.ready,by simp,e3.trans hLB,fun X=>?_⟩
  have e4:=aT e2 (i:=H.length+2) (by omega) X
  have e5:aB G (H.length+2) X=(H++[.map (pX 0 (cG l dir)) (cG l dir).length])++(.cells 0 [.map H.length]::X::L):=by rw[e];simp[aB,zB2]
  obtain⟨G2,hG2⟩:∃G2,aB G (H.length+2) X=G2:=⟨_,rfl⟩
  rw[hG2]at e4 e5 ⊢
  simp only[go_sem]
  repeat' first|(refine gS ?_;simp only[go_sem,e4])|refine gA ?_|(refine gD (fun h=>?_) (fun h=>?_)<;>try exact aA h)|fail
  refine⟨_,_,_,e5,by simp,fun j b' hj=>?_,.cl _ (.map _ (by simp)),rfl,rfl⟩
  by_cases hlt:j<H.length
  ·rw[zAt hlt]at hj;exact .inl hj
  ·rw[zAJ (by omega)]at hj
   refine .inr ?_
   cases hk:j-H.length with
   |zero=>rw[hk]at hj;cases hj;exact aJJ _ _ _
   |succ k=>rw[hk]at hj;simp at hj
def jK(o:Option Nd):AV:=.tup [.int .i64 ((o.map (·.id)).getD 0),.bool o.isSome]
theorem aCz(b:Bool)(l:List Nd)(dir:Int)(s:Txt)(hl:l.length≤1073741824)(H:AHeap):bD Tryz.prog 91 [.sl b (l.map ndA),.int .i64 dir,.str s] H (jK (childN l dir s)):=by
 refine fO Tryz.func91 ?_
 cases hs:chk l with
 |false=>
  have he:childN l dir s=none:=by simp[childN,hs]
  rw[he]
  repeat' first|((first|refine gQ (jR _ _) ?_|refine gS ?_);simp only[go_sem,hs])|refine gA ?_|(refine gD (fun h=>?_) (fun h=>?_)<;>try exact aA h)|fail
  exact bL (.refl _)
 |true=>
  have he:childN l dir s=bT s (cG l dir):=by simp[childN,hs]
  rw[he]
  repeat' first|((first|refine gQ (jR _ _) ?_|refine gS ?_);simp only[go_sem,hs])|refine gA ?_|(refine gD (fun h=>?_) (fun h=>?_)<;>try exact aA h)|fail
  refine aV (aJ0 b l dir hl H) (cO) ?_
  rintro v H' ⟨rfl,rfl⟩
  have hks:keysIn .string (pX 0 (cG l dir))=True:=zAI (aDA 0 _)
  rcases aJH 0 (cG l dir) s with⟨q1,q2⟩|⟨o,j,q1,q2⟩
  ·rw[q1]
   simp only[go_sem,hks,q2]
   repeat' first|(refine gS ?_;simp only[go_sem,hks,q2,ndA])|refine gA ?_|(refine gD (fun h=>?_) (fun h=>?_)<;>try exact aA h)|fail
   exact dY (.refl _)
  ·rw[q1]
   simp only[go_sem,hks,q2,ndA]
   repeat' first|(refine gS ?_;simp only[go_sem,hks,q2,ndA])|refine gA ?_|(refine gD (fun h=>?_) (fun h=>?_)<;>try exact aA h)|fail
   exact dY (.refl _)
def jS(r:Int×Int):AV:=.tup [.int .i64 r.1,.int .i64 r.2]
theorem aAM(l:List Nd)(at_:Int)(s:Txt)(names:List Txt):kC l at_ (s::names)=if dirI at_=true then(match childN l at_ s with|some n=>kC l n.id names|none=>(0,80))else(0,81):=rfl
theorem aGr(b b':Bool)(l:List Nd)(names:List Txt)(hl:l.length≤1073741824)(H:AHeap):bD Tryz.prog 147 [.sl b (l.map ndA),.sl b' (names.map AV.str)] H (jS (fQ l names)):=by
 refine eR fun _ hok=>?_
 have hn:=jB hok
 rw[zAj]at hn
 refine fO Tryz.func147 ?_
 repeat' first|(refine gS ?_;simp only[go_sem])|refine gA ?_|(refine gD (fun h=>?_) (fun h=>?_)<;>try exact aA h)|fail
 refine aH (ι:=Nat×Int) (fun p=>[(0,.sl b (l.map ndA)),(11,.sl b' (names.map AV.str)),(12,.int .i64 names.length),(13,.int .i64 p.1),(6,.int .i64 p.2)]) (fun _=>H) (fun p=>p.1≤names.length∧fQ l names=kC l p.2 (names.drop p.1)) (fun p=>names.length-p.1) (0,0) ⟨zAn _,rfl⟩ ?_ rfl ?_
 ·simp[go_sem]
 ·rintro⟨i,at_⟩ ⟨hi,he⟩
  simp only at hi he ⊢
  by_cases hlt:i<names.length
  ·have hp:=aJ AV.str hlt
   have hli:decide ((i:Int)<(names.length:Int))=true:=dT
   have hw:=aK hlt hn
   have hd:=aAC at_
   have hch:=aCz b l at_ names[i] hl
   rw[zAk hlt,aAM]at he
   cases h1:dirI at_ with
   |false=>
    rw[h1]at hd he
    repeat' first|(refine gS ?_;simp only[go_sem,hp,hli])|refine gA ?_|(refine gD (fun h=>?_) (fun h=>?_)<;>try exact aA h)|fail
    exact bL (.of (by rw[he];rfl))
   |true=>
    rw[h1,zAc rfl]at he
    rw[h1]at hd
    cases h2:childN l at_ names[i]with
    |none=>
     rw[h2]at hch he
     simp only[jK,zB6,zBV,zBy]at hch
     repeat' first|(refine gS ?_;simp only[go_sem,hp,hli])|refine gA ?_|(refine gD (fun h=>?_) (fun h=>?_)<;>try exact aA h)|fail
     exact bL (.of (by rw[he];rfl))
    |some n=>
     rw[h2]at hch he
     simp only[jK,zBR,zBs,zBf]at hch
     repeat' first|(refine gS ?_;simp only[go_sem,hp,hli])|refine gA ?_|(refine gD (fun h=>?_) (fun h=>?_)<;>try exact aA h)|fail
     exact⟨(i+1,n.id),⟨hlt,he⟩,by simp only;omega,zAp _ hw,rfl⟩
  ·have hie:i=names.length:=by omega
   subst hie
   have hli:decide ((names.length:Int)<(names.length:Int))=false:=by simp
   repeat' first|(refine gS ?_;simp only[go_sem,hli])|refine gA ?_|(refine gD (fun h=>?_) (fun h=>?_)<;>try exact aA h)|fail
   exact bL (.of (by rw[he,zA7];rfl))
end Go.Proofs.YtolbeecicikoaaaGreatDoor

/- The texts 15 of 51 beneath the rows of this seat (joined by program): the abstract machine, and what the functions answer. No condition. -/
import Derived.Test.YthhdnjiodklmmaaGreatDoorWorkAI
import Derived.Test.YthhdnjiodklmmaaGreatDoorWorkAL
set_option linter.unusedSimpArgs false
set_option linter.unusedVariables false
set_option linter.unusedSectionVars false
/- view.inside, seen, Child and Find: what they answer. No condition but the length of what comes in. -/
namespace Go.Proofs.YthhdnjiodklmmaaGreatDoor
open Go Go.Aw Go.Gw
set_option linter.unusedSimpArgs false
set_option maxRecDepth 20000
set_option maxHeartbeats 2000000
theorem aHd(b:Bool)(l:List Nd)(dir:Int)(y:Nat)(J:Nat→AHeap→Prop)(hA:∀i G L,J i G→J i (G++L))
  (hN:∀i (h:i<l.length) G,J i G→inD dir l[i]=false→J (i+1) G)
  (hY:∀i (h:i<l.length) G,J i G→inD dir l[i]=true→AYield Tryz.prog y [ndA l[i]] G (fun v G'=>v=.bool true∧J (i+1) G')) (hl:l.length≤1073741824) (H:AHeap) (h0:J 0 H):
  ACalls Tryz.prog 144 [.func (.yield y) [] [],.cptr [.sl b (l.map ndA)],.cptr [.int .i64 dir]] H (fun _ G=>J l.length G):=by
 refine dH Tryz.func144 rfl (Nat.le_of_ble_eq_true rfl) ?_
 repeat' first|(refine gS ?_;simp only[go_sem])|refine gA ?_|(refine gD (fun h=>?_) (fun h=>?_)<;>try exact aA h)|fail
 refine aP (ι:=Nat×AHeap) (fun p=>[(0,.func (.yield y) [] []),(2,.cptr [.int .i64 dir]),(6,.sl b (l.map ndA)),(7,.int .i64 l.length),(8,.int .i64 p.1)]) (fun p=>p.2) (fun p=>p.1≤l.length∧J p.1 p.2) (fun p=>l.length-p.1) (0,H) ⟨Nat.zero_le _,h0⟩ ?_ rfl ?_
 ·simp[go_sem]
 ·rintro⟨i,G⟩ ⟨hi,hJ⟩
  simp only at hi hJ ⊢
  by_cases hlt:i<l.length
  ·have hp:=bA ndA hlt
   have hli:decide ((i:Int)<(l.length:Int))=true:=decide_eq_true (by omega)
   have hw:=bD hlt (by omega)
   have hck:=iS l[i].moved.c l[i].moved.r
   by_cases h1:l[i].parent=dir
   ·have hd:decide (l[i].parent=dir)=true:=decide_eq_true h1
    cases h2:okI l[i].moved.c l[i].moved.r with
    |false=>
     rw[h2]at hck
     have ct0:=ct hck cH;repeat' first|((first|refine gK ?_|refine gS ?_);simp only[go_sem,hp,hli,hd,ndA])|refine gA ?_|(refine gD (fun h=>?_) (fun h=>?_)<;>try exact aA h)|fail
     exact⟨(i+1,_),⟨hlt,hN i hlt _ (hA _ _ _ hJ) (by simp[inD,h2])⟩,by simp only;omega,congrArg _ hw,rfl⟩
    |true=>
     rw[h2]at hck
     have hy:=hY i hlt _ (hA i G [.cells 0 (ndA l[i]).cells] hJ) (by simp[inD,h1,h2])
     have ct0:=ct hck cH;repeat' first|((first|refine gK ?_|refine gS ?_);simp only[go_sem,hp,hli,hd,ndA])|refine gA ?_|(refine gD (fun h=>?_) (fun h=>?_)<;>try exact aA h)|fail
     refine pY hy ?_
     rintro v G' ⟨rfl,hJ'⟩
     simp only[go_sem]
     repeat' first|(refine gS ?_;simp only[go_sem])|refine gA ?_|(refine gD (fun h=>?_) (fun h=>?_)<;>try exact aA h)|fail
     exact⟨(i+1,G'),⟨hlt,hJ'⟩,by simp only;omega,congrArg _ hw,rfl⟩
   ·have hd:decide (l[i].parent=dir)=false:=decide_eq_false h1
    repeat' first|(refine gS ?_;simp only[go_sem,hp,hli,hd,ndA])|refine gA ?_|(refine gD (fun h=>?_) (fun h=>?_)<;>try exact aA h)|fail
    exact⟨(i+1,_),⟨hlt,hN i hlt _ (hA _ _ _ hJ) (by simp[inD,h1])⟩,by simp only;omega,congrArg _ hw,rfl⟩
  ·have hie:i=l.length:=by omega
   subst hie
   repeat' first|(refine gS ?_;simp only[go_sem])|refine gA ?_|(refine gD (fun h=>?_) (fun h=>?_)<;>try exact aA h)|fail
   exact hJ
theorem aUf(k:Nat)(b:Bool)(l:List Nd):Cl k (.sl b (l.map ndA)):=(Pur.sl b _ (aJl l)).cl k
theorem aAA(b:Bool)(l:List Nd)(dir:Int)(H:AHeap):cJ Tryz.prog 83 [.sl b (l.map ndA),.int .i64 dir] H (.func (.func 144) [] [.cptr [.sl b (l.map ndA)],.cptr [.int .i64 dir]]):=by
 refine aL Tryz.func83 rfl (Nat.le_of_ble_eq_true rfl) ?_
 repeat' first|(refine gS ?_;simp only[go_sem])|refine gA ?_|(refine gD (fun h=>?_) (fun h=>?_)<;>try exact aA h)|fail
 refine⟨_,_,rfl,?_,rfl⟩
 refine .func _ _ _ _ _ rfl rfl gQ (dW (yN (Nat.le_refl _) (by simp only[go_sem]) ?_) (dW (yN (by omega) (by simp only[go_sem]) ?_) gQ))
 ·simp only[List.mem_singleton,forall_eq];exact aUf _ _ _
 ·simp only[List.mem_singleton,forall_eq];exact .int _ _
theorem aJo(b:Bool)(l:List Nd)(dir:Int)(hl:l.length≤1073741824)(H:AHeap):
  ACalls Tryz.prog 42 [.sl b (l.map ndA),.int .i64 dir] H (fun v H'=>v=.map H.length∧H'=H++[.map (mT 0 (dE l dir)) (dE l dir).length]):=by
 refine fW Tryz.func42 rfl (Nat.le_of_ble_eq_true rfl) ?_
 repeat' first|((first|refine cK (ct (aAA _ _ _) wE) ?_|refine cP (ct (aAA _ _ _) wE) ?_|refine cM (ct (aAA _ _ _) wE) ?_|refine gS ?_);simp only[go_sem])|refine gA ?_|(refine gD (fun h=>?_) (fun h=>?_)<;>try exact aA h)|fail
 refine aIR [(5,.ref (H.length+1) 0 0),(12,.func (.func 144) [] [.cptr [.sl b (l.map ndA)],.cptr [.int .i64 dir]])] (by simp[go_sem]) ?_
 refine uE rfl aEi fun y LB hLB=>?_
 have hlen2:(H++[ABlk.map [] 0,.cells 0 [.map H.length]]).length=H.length+2:=by simp
 rw[hlen2,List.append_assoc]
 let M:Nat→List (Txt×Nd):=fun i=>(l.take i).foldl (mS dir) []
 let J:Nat→AHeap→Prop:=fun i G=>∃L,G=(H++[.map (mT 0 (M i)) (M i).length,.cells 0 [.map H.length],LB])++L
 have hM:∀i (h:i<l.length),M (i+1)=mS dir (M i) l[i]:=fun i h=>by
  simp only[M];rw[List.take_succ_eq_append_getElem h,List.foldl_append];rfl
 refine(aHd b l dir y J (fun i G L ⟨L',e⟩=>⟨L'++L,by rw[e,List.append_assoc]⟩) (fun i h G ⟨L,e⟩ hd=>⟨L,by rw[e,hM i h,mS,if_neg (by rw[hd];simp)]⟩) (fun i h G ⟨L,e⟩ hd=>?_) hl _ ⟨[],by simp[M,mT]⟩).mono fun _ G ⟨L,e⟩=>?_
 ·have hmi:=hM i h
  rw[mS,if_pos hd]at hmi
  have e1:hget G H.length=.map (mT 0 (M i)) (M i).length:=by rw[e];exact aH (b:=.map _ _) (by simp only[go_sem]) trivial L
  have e2:hget G (H.length+1)=.cells 0 [.map H.length]:=by rw[e];exact aH (b:=.cells _ _) (by simp only[go_sem]) trivial L
  have e3:hget G (H.length+2)=LB:=by rw[e];exact aH (by simp only[go_sem]) (by rw[hLB];trivial) L
  have hlv:LB.live:=by rw[hLB];trivial
  refine aBF e3 hLB rfl rfl rfl rfl fun BB fin hBB hlB hf1 hf2=>?_
  have f3:=aT e3 hlv
  have g3:=fM e3 hlv
  simp only[aAo]
  refine nU rfl ?_
  simp only[go_sem,f3,g3,ndA]
  obtain⟨G1,hG1⟩:∃G1,aD G (H.length+2) BB=G1:=⟨_,rfl⟩
  rw[hG1]
  have hl3:=bI e3 hlv
  have hlen:G.length=G1.length:=by rw[←hG1];simp[aD]
  have a1:hget G1 H.length=.map (mT 0 (M i)) (M i).length:=by rw[←hG1];exact bB e1 (by omega) BB
  have a2:hget G1 (H.length+1)=.cells 0 [.map H.length]:=by rw[←hG1];exact bB e2 (by omega) BB
  have a3:hget G1 (H.length+2)=BB:=by rw[←hG1];exact cV hl3 BB
  have k1:=aT a1 trivial
  have k2:=aT a2 trivial
  have k3:=aT a3 hlB
  have s1:=fM a1 trivial
  rw[hlen]
  have hks:keysIn .string (mT 0 (M i))=True:=eq_true (aAw 0 _)
  clear hLB hBB hf2
  have hno:∀Y,M (i+1)=M i→oW (H.length+2) BB fin G1 (fun v G'=>v=.bool true∧J (i+1) G') true none (G1++Y):=fun Y hY=>
   ⟨k3 _,G1,Y,rfl,rfl,fun _ _ h=>.inl h,rfl,L,by rw[hf1,←hG1,cZ,gV e3 hlv,hY];exact e⟩
  have hyes:∀Y,M (i+1)=hS l[i].name l[i] (M i)→oW (H.length+2) BB fin G1 (fun v G'=>v=.bool true∧J (i+1) G') true none
    (aD G1 H.length (.map (dR (.str l[i].name) (ndA l[i]) (mT 0 (M i)) (M i).length) (lW (.str l[i].name) (mT 0 (M i)) (M i).length))++Y):=fun Y hY=>by
   rw[aI4,←hY]
   refine⟨aT (bB a3 (by omega) _) hlB _,_,Y,rfl,by rw[aC],mD (aI5 _ _ _),rfl,L,?_⟩
   rw[hf1,←hG1,kT _ _ _ (by omega),cZ,gV e3 hlv,e]
   simp[aD,List.set_append]
  rcases aI3 0 (M i) l[i].name with⟨q1,q2⟩|⟨o,j,q1,q2⟩
  ·repeat' first|(refine gS ?_;simp only[go_sem,k1,k2,k3,s1,hks,q2,ndA])|refine gA ?_|(refine gD (fun h=>?_) (fun h=>?_)<;>try exact aA h)|fail
   exact hyes _ (by rw[hmi,uM,q1])
  ·have hless:=tH l[i].moved.c l[i].moved.r o.moved.c o.moved.r
   cases hlt:xN l[i].moved.c l[i].moved.r o.moved.c o.moved.r with
   |true=>
    rw[hlt]at hless
    have ct0:=ct hless jN;repeat' first|((first|refine gK ?_|refine gS ?_);simp only[go_sem,k1,k2,k3,s1,hks,q2,ndA])|refine gA ?_|(refine gD (fun h=>?_) (fun h=>?_)<;>try exact aA h)|fail
    exact hno _ (by rw[hmi,uM,q1];exact if_pos hlt)
   |false=>
    rw[hlt]at hless
    have ct0:=ct hless jN;repeat' first|((first|refine gK ?_|refine gS ?_);simp only[go_sem,k1,k2,k3,s1,hks,q2,ndA])|refine gA ?_|(refine gD (fun h=>?_) (fun h=>?_)<;>try exact aA h)|fail
    exact hyes _ (by rw[hmi,uM,q1];exact if_neg (by rw[hlt];simp))
 ·have hml:M l.length=dE l dir:=by simp only[M];rw[List.take_length];rfl
  rw[hml]at e
  have e1:hget G H.length=.map (mT 0 (dE l dir)) (dE l dir).length:=by rw[e];exact aH (b:=.map _ _) (by simp only[go_sem]) trivial L
  have e2:hget G (H.length+1)=.cells 0 [.map H.length]:=by rw[e];exact aH (b:=.cells _ _) (by simp only[go_sem]) trivial L
  have e3:hget G (H.length+2)=LB:=by rw[e];exact aH (by simp only[go_sem]) (by rw[hLB];trivial) L
  refine .inl ⟨.ready,by simp,e3.trans hLB,fun X=>?_⟩
  have e4:=bB e2 (i:=H.length+2) (by omega) X
  have e5:aD G (H.length+2) X=(H++[.map (mT 0 (dE l dir)) (dE l dir).length])++(.cells 0 [.map H.length]::X::L):=by rw[e];simp[aD,List.set_append]
  obtain⟨G2,hG2⟩:∃G2,aD G (H.length+2) X=G2:=⟨_,rfl⟩
  rw[hG2]at e4 e5 ⊢
  simp only[go_sem]
  repeat' first|(refine gS ?_;simp only[go_sem,e4])|refine gA ?_|(refine gD (fun h=>?_) (fun h=>?_)<;>try exact aA h)|fail
  refine⟨_,_,_,e5,by simp,fun j b' hj=>?_,.cl _ (.map _ (by simp)),rfl,rfl⟩
  by_cases hlt:j<H.length
  ·rw[List.getElem?_append_left hlt]at hj;exact .inl hj
  ·rw[List.getElem?_append_right (by omega)]at hj
   refine .inr ?_
   cases hk:j-H.length with
   |zero=>rw[hk]at hj;cases hj;exact aI5 _ _ _
   |succ k=>rw[hk]at hj;simp at hj
def qH(o:Option Nd):AV:=.tup [.int .i64 ((o.map (·.id)).getD 0),.bool o.isSome]
theorem yV(b:Bool)(l:List Nd)(dir:Int)(s:Txt)(hl:l.length≤1073741824)(H:AHeap):cJ Tryz.prog 21 [.sl b (l.map ndA),.int .i64 dir,.str s] H (qH (childN l dir s)):=by
 refine aL Tryz.func21 rfl (Nat.le_of_ble_eq_true rfl) ?_
 cases hs:chk l with
 |false=>
  have he:childN l dir s=none:=by simp[childN,hs]
  rw[he]
  repeat' first|((first|refine cK (ct (bR _ _) aR) ?_|refine cP (ct (bR _ _) aR) ?_|refine cM (ct (bR _ _) aR) ?_|refine gS ?_);simp only[go_sem,hs])|refine gA ?_|(refine gD (fun h=>?_) (fun h=>?_)<;>try exact aA h)|fail
  exact aY (by simp only[go_sem]) (.refl _)
 |true=>
  have he:childN l dir s=dI s (dE l dir):=by simp[childN,hs]
  rw[he]
  repeat' first|((first|refine cK (ct (bR _ _) aR) ?_|refine cP (ct (bR _ _) aR) ?_|refine cM (ct (bR _ _) aR) ?_|refine gS ?_);simp only[go_sem,hs])|refine gA ?_|(refine gD (fun h=>?_) (fun h=>?_)<;>try exact aA h)|fail
  refine bE (aJo b l dir hl H) aBA ?_
  rintro v H' ⟨rfl,rfl⟩
  have hks:keysIn .string (mT 0 (dE l dir))=True:=eq_true (aAw 0 _)
  rcases aI3 0 (dE l dir) s with⟨q1,q2⟩|⟨o,j,q1,q2⟩
  ·rw[q1]
   simp only[go_sem,hks,q2]
   repeat' first|(refine gS ?_;simp only[go_sem,hks,q2,ndA])|refine gA ?_|(refine gD (fun h=>?_) (fun h=>?_)<;>try exact aA h)|fail
   exact done (by simp only[go_sem]) (.refl _)
  ·rw[q1]
   simp only[go_sem,hks,q2,ndA]
   repeat' first|(refine gS ?_;simp only[go_sem,hks,q2,ndA])|refine gA ?_|(refine gD (fun h=>?_) (fun h=>?_)<;>try exact aA h)|fail
   exact done (by simp only[go_sem]) (.refl _)
def sB(r:Int×Int):AV:=.tup [.int .i64 r.1,.int .i64 r.2]
theorem aEP(l:List Nd)(at_:Int)(s:Txt)(names:List Txt):jW l at_ (s::names)=if dirI at_=true then(match childN l at_ s with|some n=>jW l n.id names|none=>(0,80))else(0,81):=rfl
theorem aFU(b b':Bool)(l:List Nd)(names:List Txt)(hl:l.length≤1073741824)(H:AHeap):cJ Tryz.prog 173 [.sl b (l.map ndA),.sl b' (names.map AV.str)] H (sB (jX l names)):=by
 refine gI fun _ hok=>?_
 have hn:=lK hok
 rw[List.length_map]at hn
 refine aL Tryz.func173 rfl (Nat.le_of_ble_eq_true rfl) ?_
 repeat' first|(refine gS ?_;simp only[go_sem])|refine gA ?_|(refine gD (fun h=>?_) (fun h=>?_)<;>try exact aA h)|fail
 refine aP (ι:=Nat×Int) (fun p=>[(0,.sl b (l.map ndA)),(11,.sl b' (names.map AV.str)),(12,.int .i64 names.length),(13,.int .i64 p.1),(6,.int .i64 p.2)]) (fun _=>H) (fun p=>p.1≤names.length∧jX l names=jW l p.2 (names.drop p.1)) (fun p=>names.length-p.1) (0,0) ⟨Nat.zero_le _,rfl⟩ ?_ rfl ?_
 ·simp[go_sem]
 ·rintro⟨i,at_⟩ ⟨hi,he⟩
  simp only at hi he ⊢
  by_cases hlt:i<names.length
  ·have hp:=bA AV.str hlt
   have hli:decide ((i:Int)<(names.length:Int))=true:=decide_eq_true (by omega)
   have hw:=bD hlt hn
   have hd:=uH at_
   have hch:=yV b l at_ names[i] hl
   rw[List.drop_eq_getElem_cons hlt,aEP]at he
   cases h1:dirI at_ with
   |false=>
    rw[h1]at hd he
    have ct0:=ct hd dA;repeat' first|((first|refine gK ?_|refine gS ?_);simp only[go_sem,hp,hli])|refine gA ?_|(refine gD (fun h=>?_) (fun h=>?_)<;>try exact aA h)|fail
    exact aY (by simp only[go_sem]) (.of (by rw[he];rfl))
   |true=>
    rw[h1,if_pos rfl]at he
    rw[h1]at hd
    cases h2:childN l at_ names[i]with
    |none=>
     rw[h2]at hch he
     simp only[qH,Option.map_none,Option.getD_none,Option.isSome_none]at hch
     have ct0:=ct hd dA;have ct1:=ct hch gY;repeat' first|((first|refine gK ?_|refine gS ?_);simp only[go_sem,hp,hli])|refine gA ?_|(refine gD (fun h=>?_) (fun h=>?_)<;>try exact aA h)|fail
     exact aY (by simp only[go_sem]) (.of (by rw[he];rfl))
    |some n=>
     rw[h2]at hch he
     simp only[qH,Option.map_some,Option.getD_some,Option.isSome_some]at hch
     have ct0:=ct hd dA;have ct1:=ct hch gY;repeat' first|((first|refine gK ?_|refine gS ?_);simp only[go_sem,hp,hli])|refine gA ?_|(refine gD (fun h=>?_) (fun h=>?_)<;>try exact aA h)|fail
     exact⟨(i+1,n.id),⟨hlt,he⟩,by simp only;omega,congrArg _ hw,rfl⟩
  ·have hie:i=names.length:=by omega
   subst hie
   have hli:decide ((names.length:Int)<(names.length:Int))=false:=by simp
   repeat' first|(refine gS ?_;simp only[go_sem,hli])|refine gA ?_|(refine gD (fun h=>?_) (fun h=>?_)<;>try exact aA h)|fail
   exact aY (by simp only[go_sem]) (.of (by rw[he,List.drop_length];rfl))
end Go.Proofs.YthhdnjiodklmmaaGreatDoor

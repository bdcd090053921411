/- The texts 41 of 53 beneath the rows of this seat (joined by program): the abstract machine, and what the functions answer. No condition. -/
import Derived.Test.YtolbeecicikoaaaGreatDoorWorkBN
set_option linter.unusedSimpArgs false
set_option linter.unusedVariables false
set_option linter.unusedSectionVars false
set_option maxRecDepth 100000
set_option maxHeartbeats 16000000
namespace Go.Proofs.YtolbeecicikoaaaGreatDoor
structure DB (F:FuncId) (H:AHeap) (evs:List Evt) (l:List Itm) (G:AHeap):Prop where
 e:EB H.length evs G
 c:hget G (H.length+2)=.cells 0 [.func (.func F) [] [.ref H.length 0 0]]
 mc:hget G (H.length+4)=.cells 0 [.map (H.length+3)]
 pre:∃M,G=H++M
 m:∃es cl,hget G (H.length+3)=.map es cl∧ItM l es
theorem DB.app{F:FuncId}{H:AHeap}{evs:List Evt}{l:List Itm}{G:AHeap}(k:DB F H evs l G)(L:AHeap):DB F H evs l (G++L):=
 ⟨k.e.app L,aG k.c trivial L,aG k.mc trivial L,let⟨M,e⟩:=k.pre;⟨M++L,by rw[e,zAu]⟩,let⟨es,cl,e1,e2⟩:=k.m;⟨es,cl,aG e1 trivial L,e2⟩⟩
theorem DB.set{F:FuncId}{H:AHeap}{evs:List Evt}{l:List Itm}{G:AHeap}(k:DB F H evs l G){i:Nat}(hi:H.length+4<i)(X:ABlk):DB F H evs l (aB G i X):=
 ⟨k.e.set (by omega) X,aT k.c (by omega) X,aT k.mc (by omega) X,cR k.pre (by omega) X,let⟨es,cl,e1,e2⟩:=k.m;⟨es,cl,aT e1 (by omega) X,e2⟩⟩
theorem DB.setm{F:FuncId}{H:AHeap}{evs:List Evt}{l l':List Itm}{G:AHeap}(k:DB F H evs l G){es:List (AV×AV×Nat)}(he:ItM l' es)(cl:Nat):DB F H evs l' (aB G (H.length+3) (.map es cl)):=
 ⟨k.e.set (by omega) _,aT k.c (by omega) _,aT k.mc (by omega) _,cR k.pre (by omega) _,⟨es,cl,cJ (by have:=aU k.mc trivial;omega) _,he⟩⟩
theorem DB.ev{F:FuncId}{H:AHeap}{evs:List Evt}{l:List Itm}{G:AHeap}(k:DB F H evs l G)(es:List Evt):DB F H es l (evH G H.length es):=
 ⟨EB.put k.e.lt es,aFD es k.c (by omega) (by omega),aFD es k.mc (by omega) (by omega),by unfold evH;exact cR (cR k.pre (by omega) _) (zAh _) _,let⟨xs,cl,e1,e2⟩:=k.m;⟨xs,cl,aFD es e1 (by omega) (by omega),e2⟩⟩
theorem aVz{l:List Itm}{i:Nat}(h:i<l.length):(l.map itA).getD i .top=itA l[i]:=by simp[h]
theorem aRK(b1 b2:Bool)(l1 l2:List Nd)(dir:Int)(hw1:Wfr l1)(hw2:Wfr l2)(hd:dirI dir=true)(hl1:l1.length≤1073741824)(hl2:l2.length≤1073741824)(hn1:SmN l1)(hn2:SmN l2)(H:AHeap):
  bD Tryz.prog 60 [.sl b1 (l1.map ndA),.sl b2 (l2.map ndA),.int .i64 dir] H (.sl false ((mA (cB l1 dir) (cB l2 dir)).map cY)):=by
 refine fO Tryz.func60 ?_
 have i1:=aNW b1 l1 dir hw1 hd hl1 hn1
 have i2:=aNW b2 l2 dir hw2 hd hl2 hn2
 obtain⟨was,hwas⟩:∃x,x=cB l1 dir:=⟨_,rfl⟩
 obtain⟨is,his⟩:∃x,x=cB l2 dir:=⟨_,rfl⟩
 have hlen:∀(l:List Nd),Wfr l→l.length≤1073741824→(cB l dir).length≤1073741824:=fun l hw hl=>by
  unfold cB
  split
  ·rename_i hc
   exact zA2 (aGu hc hw (aNe l dir) dir [] hd) hl
  ·exact zAn _
 have hlw:was.length≤1073741824:=by rw[hwas];exact hlen l1 hw1 hl1
 have hli:is.length≤1073741824:=by rw[his];exact hlen l2 hw2 hl2
 rw[←hwas]at i1 ⊢
 rw[←his]at i2 ⊢
 clear hwas his
 refine xG (ι:=Unit) (fun _=>[(0,.sl b1 (l1.map ndA)),(1,.sl b2 (l2.map ndA)),(2,.int .i64 dir)]) (fun _=>H) (fun _=>True) ?_ fun _ _=>?_
 ·repeat' first|(refine gS ?_;simp only[go_sem])|refine gA ?_|(refine gD (fun h=>?_) (fun h=>?_)<;>try exact aA h)|fail
  exact⟨(),trivial⟩
 refine xG (ι:=Unit) (fun _=>[(7,.sl false (was.map itA)),(8,.sl false (is.map itA))]) (fun _=>H) (fun _=>True) ?_ fun _ _=>?_
 ·have ct0:=i1;have ct1:=i2;repeat' first|(refine gS ?_;simp only[go_sem])|refine gA ?_|(refine gD (fun h=>?_) (fun h=>?_)<;>try exact aA h)|fail
  exact⟨(),trivial⟩
 refine xG (ι:=Unit) (fun _=>[(7,.sl false (was.map itA)),(8,.sl false (is.map itA)),(9,.ref H.length 0 0)]) (fun _=>H++[.cells 0 [.sl true []]]) (fun _=>True) ?_ fun _ _=>?_
 ·repeat' first|(refine gS ?_;simp only[go_sem])|refine gA ?_|(refine gD (fun h=>?_) (fun h=>?_)<;>try exact aA h)|fail
  exact⟨(),trivial⟩
 refine nE H.length 0 2 (by first|(simp only[go_sem];done)|(simp only[go_sem];rfl)) rfl ?_
 simp only[go_sem]
 repeat' first|(refine gS ?_;simp only[go_sem])|refine gA ?_|(refine gD (fun h=>?_) (fun h=>?_)<;>try exact aA h)|fail
 -- what is there now, by its path
 refine dB (ι:=AHeap) (fun _=>[(7,.sl false (was.map itA)),(8,.sl false (is.map itA)),(9,.ref H.length 0 0),(10,.ref (H.length+2) 0 0),(11,.ref (H.length+4) 0 0)]) (fun G=>G) (fun G=>DB 121 H [] is G) ?_ fun G1 hD1=>?_
 ·refine aH (ι:=Nat×AHeap) (fun s=>[(7,.sl false (was.map itA)),(8,.sl false (is.map itA)),(9,.ref H.length 0 0),(10,.ref (H.length+2) 0 0),(11,.ref (H.length+4) 0 0),(36,.sl false (is.map itA)),(37,.int .i64 is.length),(38,.int .i64 s.1)]) (fun s=>s.2) (fun s=>s.1≤is.length∧DB 121 H [] (is.take s.1) s.2) (fun s=>is.length-s.1) (0,_) ⟨zAn _,?_⟩ ?_ rfl ?_
  ·exact⟨⟨by first|(simp only[go_sem];done)|(simp only[go_sem];rfl),by first|(simp only[go_sem];done)|(simp only[go_sem];rfl)⟩,by simp only[go_sem],by simp only[go_sem],⟨_,rfl⟩,⟨[],0,by simp only[go_sem],aVu⟩⟩
  ·simp[go_sem]
  rintro⟨i,G⟩ ⟨hi,hD⟩
  simp only at hi hD ⊢
  by_cases hin:i<is.length
  ·obtain⟨es,cl,e1,he⟩:=hD.m
   have r3:=aR e1 trivial
   have r4:=aR hD.mc trivial
   have w3:=eE e1 trivial
   have k1:keysIn .string es=True:=zAI he.ki
   have hgd:=aVz hin
   have he2:=aVv he is[i] cl
   rw[←zAa hin]at he2
   repeat' first|(refine gS ?_;simp only[go_sem,hin,hgd,itA,k1,r3,r4,w3])|refine gA ?_|(refine gD (fun h=>?_) (fun h=>?_)<;>try exact aA h)|fail
   exact⟨(i+1,_),⟨hin,(hD.setm he2 _).app _⟩,by simp only;omega,zAp _ (aK hin (by omega)),rfl⟩
  ·have hie:i=is.length:=by omega
   rw[hie,zAq]at hD
   repeat' first|(refine gS ?_;simp only[go_sem,hin])|refine gA ?_|(refine gD (fun h=>?_) (fun h=>?_)<;>try exact aA h)|fail
   exact⟨G,hD,rfl⟩
 repeat' first|((first|refine gQ (aVx _ _) ?_|refine gS ?_);simp only[go_sem])|refine gA ?_|(refine gD (fun h=>?_) (fun h=>?_)<;>try exact aA h)|fail
 let E:Nat→List Evt:=fun k=>((was.drop k).reverse.filter (pA is)).map fun t=>⟨1,t.path⟩
 have hEl:∀k,(E k).length≤was.length:=fun k=>by
  have h1:=zAQ (pA is) (was.drop k).reverse
  simp only[E,zAj,zA9,zAH]at h1 ⊢
  omega
 have hEs:∀i (h:i<was.length),E i=E (i+1)++if pA is was[i]=true then[⟨1,was[i].path⟩]else[]:=fun i h=>by
  simp only[E]
  rw[zAk h,List.reverse_cons,zAV,zBa]
  congr 1
  by_cases hg:pA is was[i]=true
  ·simp[hg]
  ·simp[hg]
 have hEe:E was.length=[]:=by simp[E]
 have hpl:H.length+4<G1.length:=aU hD1.mc trivial
 refine dB (ι:=AHeap) (fun _=>[(7,.sl false (was.map itA)),(8,.sl false (is.map itA)),(9,.ref H.length 0 0),(10,.ref (H.length+2) 0 0),(11,.ref (H.length+4) 0 0)]) (fun G=>G) (fun G=>DB 121 H (E 0) is G) ?_ fun G2 hD2=>?_
 ·refine aJv [(7,.sl false (was.map itA)),(8,.sl false (is.map itA)),(9,.ref H.length 0 0),(10,.ref (H.length+2) 0 0),(11,.ref (H.length+4) 0 0),(48,.func (.func 161) [] [.cptr [.sl false (was.map itA)]])] (by simp[go_sem]) ?_
  refine uT rfl (cO) fun y LB hLB=>?_
  have hLv:LB.live:=by rw[hLB];trivial
  refine(aUG false was y (fun k G=>DB 121 H (E k) is G∧hget G G1.length=LB) (fun i h G hJ=>?_) (by omega) _ ⟨by rw[hEe];exact hD1.app _,jO G1 _⟩).mono fun _ H' h=>?_
  ·obtain⟨hD,hLg⟩:=hJ
   refine aBI hLg hLB rfl rfl rfl rfl fun BB fin hBB hlB hf1 hf2=>?_
   have f3:=aR hLg hLv
   have g3:=eE hLg hLv
   simp only[aAx]
   refine kS rfl ?_
   simp only[go_sem,f3,g3,itA]
   have hown:∀X,aB (aB G G1.length X) G1.length LB=G:=fun X=>by rw[cS,gW hLg hLv]
   obtain⟨G3,hG3⟩:∃G3,aB G G1.length BB=G3:=⟨_,rfl⟩
   have hl3:=aU hLg hLv
   have hlen:G.length=G3.length:=by rw[←hG3];simp[aB]
   have hD3:DB 121 H (E (i+1)) is G3:=by rw[←hG3];exact hD.set hpl BB
   have a3:hget G3 G1.length=BB:=by rw[←hG3];exact cJ hl3 BB
   rw[hG3,hlen]
   clear hLB hBB hf2
   obtain⟨es,cl,e1,he⟩:=hD3.m
   have p3:=aR a3 hlB
   have r3:=aR e1 trivial
   have r4:=aR hD3.mc trivial
   have rc:=aR hD3.c trivial
   have k1:keysIn .string es=True:=zAI he.ki
   have hsz:=hEl (i+1)
   have hyes:pA is was[i]=true→∀Y,pR G1.length BB fin G3 (fun v G'=>v=.bool true∧DB 121 H (E i) is G'∧hget G' G1.length=LB) true none (evH (G3++Y) H.length (E (i+1)++[⟨1,was[i].path⟩])):=fun hg Y=>by
    rw[aVw hD3.e.lt]
    refine⟨aG (aFD _ a3 (by omega) (by omega)) hlB _,_,Y,rfl,aGT _ _ _,aLk _ (by omega),rfl,?_,?_⟩
    ·rw[hEs i h,zAc hg,hf1]
     exact(hD3.ev _).set hpl _
    ·rw[hf1]
     exact cJ (by rw[aGT,←hlen];exact hl3) _
   have hno:pA is was[i]=false→∀Y,pR G1.length BB fin G3 (fun v G'=>v=.bool true∧DB 121 H (E i) is G'∧hget G' G1.length=LB) true none (G3++Y):=fun hg Y=>by
    refine⟨p3 _,G3,Y,rfl,rfl,fun _ _ h=>.inl h,rfl,?_,?_⟩
    ·rw[hEs i h,zAb (by rw[hg];simp),zAg,hf1]
     exact hD3.set hpl _
    ·rw[hf1]
     exact cJ (by rw[←hlen];exact hl3) _
   cases hk:lookI was[i].path is with
   |none=>
    have hkn:=he.no hk
    have hg:pA is was[i]=true:=by unfold pA;rw[hk]
    repeat' first|(refine gS ?_;simp only[go_sem,hkn,k1,r3,r4,rc,p3])|refine gA ?_|(refine gD (fun h=>?_) (fun h=>?_)<;>try exact aA h)|fail
    refine oD (aWj 1 was[i].path (E (i+1)) H.length (by omega) _ (hD3.e.app _)) (cO) ?_
    rintro v H' ⟨rfl,rfl⟩
    simp only[go_sem]
    repeat' first|(refine gS ?_;simp only[go_sem])|refine gA ?_|(refine gD (fun h=>?_) (fun h=>?_)<;>try exact aA h)|fail
    exact hyes hg _
   |some x=>
    obtain⟨j,hkn⟩:=he.yes hk
    by_cases hx:x.id=was[i].id
    ·have hg:pA is was[i]=false:=by unfold pA;rw[hk];simp[hx]
     repeat' first|(refine gS ?_;simp only[go_sem,hkn,k1,r3,r4,rc,p3,itA,hx])|refine gA ?_|(refine gD (fun h=>?_) (fun h=>?_)<;>try exact aA h)|fail
     exact hno hg _
    ·have hg:pA is was[i]=true:=by unfold pA;rw[hk];simp[hx]
     repeat' first|(refine gS ?_;simp only[go_sem,hkn,k1,r3,r4,rc,p3,itA,hx])|refine gA ?_|(refine gD (fun h=>?_) (fun h=>?_)<;>try exact aA h)|fail
     refine oD (aWj 1 was[i].path (E (i+1)) H.length (by omega) _ (hD3.e.app _)) (cO) ?_
     rintro v H' ⟨rfl,rfl⟩
     simp only[go_sem]
     repeat' first|(refine gS ?_;simp only[go_sem])|refine gA ?_|(refine gD (fun h=>?_) (fun h=>?_)<;>try exact aA h)|fail
     exact hyes hg _
  ·refine .inl ⟨.ready,by simp,h.2.trans hLB,fun X=>?_⟩
   exact⟨_,h.1.set (by omega) X,by simp[go_sem],rfl⟩
 obtain⟨m1,m2,m3,m4⟩:=hD2.m
 have m5:=hD2.mc
 repeat' first|(refine gS ?_;simp only[go_sem,m3,m5])|refine gA ?_|(refine gD (fun h=>?_) (fun h=>?_)<;>try exact aA h)|fail
 have hD2':DB 121 H (E 0) [] (aB G2 (H.length+3) (.map [] m2)):=hD2.setm aVu m2
 generalize aB G2 (H.length+3) (.map [] m2)=G2' at *
 clear hD2 m3 m5 m4
 -- what was there, by its path
 refine dB (ι:=AHeap) (fun _=>[(7,.sl false (was.map itA)),(8,.sl false (is.map itA)),(9,.ref H.length 0 0),(10,.ref (H.length+2) 0 0),(11,.ref (H.length+4) 0 0)]) (fun G=>G) (fun G=>DB 121 H (E 0) was G) ?_ fun G4 hD4=>?_
 ·refine aH (ι:=Nat×AHeap) (fun s=>[(7,.sl false (was.map itA)),(8,.sl false (is.map itA)),(9,.ref H.length 0 0),(10,.ref (H.length+2) 0 0),(11,.ref (H.length+4) 0 0),(72,.sl false (was.map itA)),(73,.int .i64 was.length),(74,.int .i64 s.1)]) (fun s=>s.2) (fun s=>s.1≤was.length∧DB 121 H (E 0) (was.take s.1) s.2) (fun s=>was.length-s.1) (0,_) ⟨zAn _,hD2'⟩ ?_ rfl ?_
  ·simp[go_sem]
  rintro⟨i,G⟩ ⟨hi,hD⟩
  simp only at hi hD ⊢
  by_cases hin:i<was.length
  ·obtain⟨es,cl,e1,he⟩:=hD.m
   have r3:=aR e1 trivial
   have r4:=aR hD.mc trivial
   have w3:=eE e1 trivial
   have k1:keysIn .string es=True:=zAI he.ki
   have hgd:=aVz hin
   have he2:=aVv he was[i] cl
   rw[←zAa hin]at he2
   repeat' first|(refine gS ?_;simp only[go_sem,hin,hgd,itA,k1,r3,r4,w3])|refine gA ?_|(refine gD (fun h=>?_) (fun h=>?_)<;>try exact aA h)|fail
   exact⟨(i+1,_),⟨hin,(hD.setm he2 _).app _⟩,by simp only;omega,zAp _ (aK hin (by omega)),rfl⟩
  ·have hie:i=was.length:=by omega
   rw[hie,zAq]at hD
   repeat' first|(refine gS ?_;simp only[go_sem,hin])|refine gA ?_|(refine gD (fun h=>?_) (fun h=>?_)<;>try exact aA h)|fail
   exact⟨G,hD,rfl⟩
 repeat' first|(refine gS ?_;simp only[go_sem])|refine gA ?_|(refine gD (fun h=>?_) (fun h=>?_)<;>try exact aA h)|fail
 -- what came
 let E2:Nat→List Evt:=fun k=>E 0++((is.take k).filter (pA was)).map fun t=>⟨2,t.path⟩
 have hE2l:∀k,(E2 k).length≤was.length+is.length:=fun k=>by
  have h1:=zAQ (pA was) (is.take k)
  have h2:=hEl 0
  simp only[E2,zAe,zAj,zAy]at h1 ⊢
  omega
 have hE2s:∀i (h:i<is.length),E2 (i+1)=E2 i++if pA was is[i]=true then[⟨2,is[i].path⟩]else[]:=fun i h=>by
  simp only[E2]
  rw[zAa h,zAV,zBa,zAu]
  congr 2
  by_cases hg:pA was is[i]=true
  ·simp[hg]
  ·simp[hg]
 have hE20:E2 0=E 0:=by simp[E2]
 refine dB (ι:=AHeap) (fun _=>[(7,.sl false (was.map itA)),(8,.sl false (is.map itA)),(9,.ref H.length 0 0),(10,.ref (H.length+2) 0 0),(11,.ref (H.length+4) 0 0)]) (fun G=>G) (fun G=>DB 121 H (E2 is.length) was G) ?_ fun G5 hD5=>?_
 ·refine aH (ι:=Nat×AHeap) (fun s=>[(7,.sl false (was.map itA)),(8,.sl false (is.map itA)),(9,.ref H.length 0 0),(10,.ref (H.length+2) 0 0),(11,.ref (H.length+4) 0 0),(83,.sl false (is.map itA)),(84,.int .i64 is.length),(85,.int .i64 s.1)]) (fun s=>s.2) (fun s=>s.1≤is.length∧DB 121 H (E2 s.1) was s.2) (fun s=>is.length-s.1) (0,_) ⟨zAn _,by rw[hE20];exact hD4⟩ ?_ rfl ?_
  ·simp[go_sem]
  rintro⟨i,G⟩ ⟨hi,hD⟩
  simp only at hi hD ⊢
  by_cases hin:i<is.length
  ·obtain⟨es,cl,e1,he⟩:=hD.m
   have r3:=aR e1 trivial
   have r4:=aR hD.mc trivial
   have rc:=aR hD.c trivial
   have k1:keysIn .string es=True:=zAI he.ki
   have hgd:=aVz hin
   have hsz:=hE2l i
   have hstp:=hE2s i hin
   have hms:is.length-(i+1)<is.length-i:=by omega
   cases hk:lookI is[i].path was with
   |none=>
    have hkn:=he.no hk
    have hg:pA was is[i]=true:=by unfold pA;rw[hk]
    rw[zAc hg]at hstp
    repeat' first|(refine gS ?_;simp only[go_sem,hin,hgd,hkn,k1,r3,r4,rc,itA])|refine gA ?_|(refine gD (fun h=>?_) (fun h=>?_)<;>try exact aA h)|fail
    refine oD (aWj 2 is[i].path (E2 i) H.length (by omega) _ (hD.e.app _)) (cO) ?_
    rintro v H' ⟨rfl,rfl⟩
    simp only[go_sem]
    repeat' first|(refine gS ?_;simp only[go_sem])|refine gA ?_|(refine gD (fun h=>?_) (fun h=>?_)<;>try exact aA h)|fail
    exact⟨(i+1,_),⟨hin,by rw[hstp];exact(hD.app _).ev _⟩,hms,zAp _ (aK hin (by omega)),rfl⟩
   |some x=>
    obtain⟨j,hkn⟩:=he.yes hk
    by_cases hx:x.id=is[i].id
    ·have hg:pA was is[i]=false:=by unfold pA;rw[hk];simp[hx]
     rw[zAb (by rw[hg];simp),zAg]at hstp
     repeat' first|(refine gS ?_;simp only[go_sem,hin,hgd,hkn,k1,r3,r4,rc,itA,hx])|refine gA ?_|(refine gD (fun h=>?_) (fun h=>?_)<;>try exact aA h)|fail
     exact⟨(i+1,_),⟨hin,by rw[hstp];exact hD.app _⟩,hms,zAp _ (aK hin (by omega)),rfl⟩
    ·have hg:pA was is[i]=true:=by unfold pA;rw[hk];simp[hx]
     rw[zAc hg]at hstp
     repeat' first|(refine gS ?_;simp only[go_sem,hin,hgd,hkn,k1,r3,r4,rc,itA,hx])|refine gA ?_|(refine gD (fun h=>?_) (fun h=>?_)<;>try exact aA h)|fail
     refine oD (aWj 2 is[i].path (E2 i) H.length (by omega) _ (hD.e.app _)) (cO) ?_
     rintro v H' ⟨rfl,rfl⟩
     simp only[go_sem]
     repeat' first|(refine gS ?_;simp only[go_sem])|refine gA ?_|(refine gD (fun h=>?_) (fun h=>?_)<;>try exact aA h)|fail
     exact⟨(i+1,_),⟨hin,by rw[hstp];exact(hD.app _).ev _⟩,hms,zAp _ (aK hin (by omega)),rfl⟩
  ·have hie:i=is.length:=by omega
   rw[hie]at hD
   repeat' first|(refine gS ?_;simp only[go_sem,hin])|refine gA ?_|(refine gD (fun h=>?_) (fun h=>?_)<;>try exact aA h)|fail
   exact⟨G,hD,rfl⟩
 repeat' first|(refine gS ?_;simp only[go_sem])|refine gA ?_|(refine gD (fun h=>?_) (fun h=>?_)<;>try exact aA h)|fail
 -- what was written
 let E3:Nat→List Evt:=fun k=>E2 is.length++((is.take k).filter (rN was)).map fun t=>⟨3,t.path⟩
 have hE3l:∀k,(E3 k).length≤was.length+2 * is.length:=fun k=>by
  have h1:=zAQ (rN was) (is.take k)
  have h2:=hE2l is.length
  have h3:(E3 k).length=(E2 is.length).length+((is.take k).filter (rN was)).length:=by simp only[E3,zAe,zAj]
  rw[zAy]at h1
  omega
 have hE3s:∀i (h:i<is.length),E3 (i+1)=E3 i++if rN was is[i]=true then[⟨3,is[i].path⟩]else[]:=fun i h=>by
  show E2 is.length++(((is.take (i+1)).filter (rN was)).map fun t=>(⟨3,t.path⟩:Evt))=(E2 is.length++((is.take i).filter (rN was)).map fun t=>(⟨3,t.path⟩:Evt))++_
  generalize E2 is.length=z
  rw[zAa h,zAV,zBa,←zAu]
  congr 1
  by_cases hg:rN was is[i]=true
  ·simp[hg]
  ·simp[hg]
 have hE30:E3 0=E2 is.length:=by simp[E3]
 refine dB (ι:=AHeap) (fun _=>[(7,.sl false (was.map itA)),(8,.sl false (is.map itA)),(9,.ref H.length 0 0),(10,.ref (H.length+2) 0 0),(11,.ref (H.length+4) 0 0)]) (fun G=>G) (fun G=>DB 121 H (E3 is.length) was G) ?_ fun G6 hD6=>?_
 ·refine aH (ι:=Nat×AHeap) (fun s=>[(7,.sl false (was.map itA)),(8,.sl false (is.map itA)),(9,.ref H.length 0 0),(10,.ref (H.length+2) 0 0),(11,.ref (H.length+4) 0 0),(110,.sl false (is.map itA)),(111,.int .i64 is.length),(112,.int .i64 s.1)]) (fun s=>s.2) (fun s=>s.1≤is.length∧DB 121 H (E3 s.1) was s.2) (fun s=>is.length-s.1) (0,_) ⟨zAn _,by rw[hE30];exact hD5⟩ ?_ rfl ?_
  ·simp[go_sem]
  rintro⟨i,G⟩ ⟨hi,hD⟩
  simp only at hi hD ⊢
  by_cases hin:i<is.length
  ·obtain⟨es,cl,e1,he⟩:=hD.m
   have r3:=aR e1 trivial
   have r4:=aR hD.mc trivial
   have rc:=aR hD.c trivial
   have k1:keysIn .string es=True:=zAI he.ki
   have hgd:=aVz hin
   have hsz:=hE3l i
   have hstp:=hE3s i hin
   have hms:is.length-(i+1)<is.length-i:=by omega
   cases hk:lookI is[i].path was with
   |none=>
    have hkn:=he.no hk
    have hg:rN was is[i]=false:=by unfold rN;rw[hk]
    rw[zAb (by rw[hg];simp),zAg]at hstp
    repeat' first|(refine gS ?_;simp only[go_sem,hin,hgd,hkn,k1,r3,r4,rc,itA])|refine gA ?_|(refine gD (fun h=>?_) (fun h=>?_)<;>try exact aA h)|fail
    exact⟨(i+1,_),⟨hin,by rw[hstp];exact hD.app _⟩,hms,zAp _ (aK hin (by omega)),rfl⟩
   |some x=>
    obtain⟨j,hkn⟩:=he.yes hk
    by_cases hx:x.id=is[i].id
    ·by_cases hy:x.data=is[i].data
     ·have hg:rN was is[i]=false:=by unfold rN;rw[hk];simp[hx,hy]
      rw[zAb (by rw[hg];simp),zAg]at hstp
      repeat' first|(refine gS ?_;simp only[go_sem,hin,hgd,hkn,k1,r3,r4,rc,itA,hx,hy])|refine gA ?_|(refine gD (fun h=>?_) (fun h=>?_)<;>try exact aA h)|fail
      exact⟨(i+1,_),⟨hin,by rw[hstp];exact hD.app _⟩,hms,zAp _ (aK hin (by omega)),rfl⟩
     ·have hg:rN was is[i]=true:=by unfold rN;rw[hk];simp[hx,hy]
      rw[zAc hg]at hstp
      repeat' first|(refine gS ?_;simp only[go_sem,hin,hgd,hkn,k1,r3,r4,rc,itA,hx,hy])|refine gA ?_|(refine gD (fun h=>?_) (fun h=>?_)<;>try exact aA h)|fail
      refine oD (aWj 3 is[i].path (E3 i) H.length (by omega) _ (hD.e.app _)) (cO) ?_
      rintro v H' ⟨rfl,rfl⟩
      simp only[go_sem]
      repeat' first|(refine gS ?_;simp only[go_sem])|refine gA ?_|(refine gD (fun h=>?_) (fun h=>?_)<;>try exact aA h)|fail
      exact⟨(i+1,_),⟨hin,by rw[hstp];exact(hD.app _).ev _⟩,hms,zAp _ (aK hin (by omega)),rfl⟩
    ·have hg:rN was is[i]=false:=by unfold rN;rw[hk];simp[hx]
     rw[zAb (by rw[hg];simp),zAg]at hstp
     repeat' first|(refine gS ?_;simp only[go_sem,hin,hgd,hkn,k1,r3,r4,rc,itA,hx])|refine gA ?_|(refine gD (fun h=>?_) (fun h=>?_)<;>try exact aA h)|fail
     exact⟨(i+1,_),⟨hin,by rw[hstp];exact hD.app _⟩,hms,zAp _ (aK hin (by omega)),rfl⟩
  ·have hie:i=is.length:=by omega
   rw[hie]at hD
   repeat' first|(refine gS ?_;simp only[go_sem,hin])|refine gA ?_|(refine gD (fun h=>?_) (fun h=>?_)<;>try exact aA h)|fail
   exact⟨G,hD,rfl⟩
 have b0:=hD6.e.b0
 have b1:=hD6.e.b1
 repeat' first|(refine gS ?_;simp only[go_sem,b0])|refine gA ?_|(refine gD (fun h=>?_) (fun h=>?_)<;>try exact aA h)|fail
 obtain⟨L,hL⟩:=hD6.pre
 have hfin:E3 is.length=mA was is:=by
  simp only[E3,E2,E,zAq,List.drop_zero]
  rfl
 rw[hL]at b1 ⊢
 rw[hfin]at b1 ⊢
 exact fN (cs:=evC (mA was is)) (es:=(mA was is).map cY) (rest:=[]) (by omega) b1 (by rw[zAg];rfl) (by simp) (fun e he=>by obtain⟨x,_,rfl⟩:=zAi.1 he;rfl) (fun e he=>by obtain⟨x,_,rfl⟩:=zAi.1 he;exact(by simp only[go_sem])) rfl
end Go.Proofs.YtolbeecicikoaaaGreatDoor

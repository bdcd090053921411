/- The texts 42 of 53 beneath the rows of this seat (joined by program): the abstract machine, and what the functions answer. No condition. -/
import Derived.Test.YtolbeecicikoaaaGreatDoorWorkAN
import Derived.Test.YtolbeecicikoaaaGreatDoorWorkAU
import Derived.Test.YtolbeecicikoaaaGreatDoorWorkBM
set_option linter.unusedSimpArgs false
set_option linter.unusedVariables false
set_option linter.unusedSectionVars false
set_option maxRecDepth 100000
set_option maxHeartbeats 16000000
namespace Go.Proofs.YtolbeecicikoaaaGreatDoor
def it0:Itm:=⟨[],0,[]⟩
def aCc(r:Option Itm):AV:=match r with
 |some x=>.tup [itA x,.bool true]
 |none=>.tup [itA it0,.bool false]
theorem aIm{l:List Itm}{i:Nat}(h:i<l.length)(p:Txt):iZ (l.drop i) p=if l[i].path=p then some l[i]else iZ (l.drop (i+1)) p:=by
 grind [zAk,iZ,zCn,zAd,eT]
def jC(l:List Itm)(x:Itm):Bool:=match iZ l x.path with
 |some y=>decide (y.id=x.id)
 |none=>false
def qH(l:List Itm)(x:Itm):Bool:=jC l x&& !decide (((iZ l x.path).getD it0).data=x.data)
def aLn(was is:List Itm):List Evt:=
 ((was.reverse.filter fun t=> !jC is t).map fun t=>⟨1,t.path⟩)++((is.filter fun t=> !jC was t).map fun t=>⟨2,t.path⟩)++((is.filter (qH was)).map fun t=>⟨3,t.path⟩)
theorem aLo{was is:List Itm}(h1:was.Pairwise fun x y=>x.path≠y.path)(h2:is.Pairwise fun x y=>x.path≠y.path):aLn was is=mA was is:=by
 have g:∀{l:List Itm},(l.Pairwise fun x y=>x.path≠y.path)→∀t,(!jC l t)=pA l t:=by
  grind [jC,pA,aB4,lookI]
 have w:∀t,qH was t=rN was t:=by
  grind [qH,jC,rN,aB4,lookI]
 unfold aLn mA
 rw[show(fun t=> !jC is t)=pA is from funext (g h2),show(fun t=> !jC was t)=pA was from funext (g h1),show qH was=rN was from funext w]
def pI(b:Bool)(k:Int)(t:Itm):List Evt:=if b=true then[⟨k,t.path⟩]else[]
theorem aC7(p:Itm→Bool)(k:Int)(l:List Itm):l.flatMap (fun t=>pI (p t) k t)=(l.filter p).map fun t=>⟨k,t.path⟩:=by
 induction l<;>grind [zAK,pI,List.filter_cons_of_pos,List.filter_cons_of_neg]
theorem aFH(was is:List Itm):aLn was is=was.reverse.flatMap (fun t=>pI (!jC is t) 1 t)++is.flatMap (fun t=>pI (!jC was t) 2 t)++is.flatMap (fun t=>pI (qH was t) 3 t):=by
 rw[aC7 (fun t=> !jC is t),aC7 (fun t=> !jC was t),aC7 (qH was)];rfl
theorem aBd(b:Bool)(k:Int)(t:Itm):(pI b k t).length≤1:=by unfold pI;split<;>simp
theorem yB(f:Itm→List Evt)(hf:∀t,(f t).length≤1)(l:List Itm):(l.flatMap f).length≤l.length:=by
 induction l<;>grind
theorem zC{l:List Nd}(h:NoS l)(dir:Int):(cB l dir).Pairwise fun x y=>x.path≠y.path:=by
 unfold cB
 split
 ·exact(yY h _ _ _ _).1
 ·exact .nil
def aEj(q:List Evt×Bool)(x:Evt):List Evt×Bool:=if q.2=true then q else if 8≤q.1.length then(q.1++[⟨9,[]⟩],true)else(q.1++[x],false)
theorem yC(l:List Evt)(e:List Evt):l.foldl aEj (e,true)=(e,true):=by
 induction l with
 |nil=>rfl
 |cons x l ih=>rw[zAZ,aEj,zAc rfl,ih]
theorem aLp:∀(l:List Evt) (e:List Evt) (o:Bool),(o=false→e.length≤8)→l.foldl aEj (e,o)=lM e o l:=by
 intro l
 induction l with
 |nil=>
  intro e o h
  unfold lM
  cases o with
  |true=>rfl
  |false=>rw[zAb (by simp),zAb (by simp)];simp
 |cons x l ih=>
  intro e o h
  cases o with
  |true=>rw[yC,lM,zAc rfl]
  |false=>
   have h8:=h rfl
   rw[zAZ,aEj,zAb (by simp)]
   simp only
   by_cases he:8≤e.length
   ·rw[zAc he,yC,lM,zAb (by simp),show 8-e.length=0 by omega,zAc (by simp)]
    simp
   ·rw[zAb he,ih _ _ (fun _=>by simp;omega)]
    unfold lM
    simp only[zAw,zA3,zAe,zAm,zAE]
    by_cases hl:8-e.length<l.length+1
    ·rw[zAc (show 8-(e.length+(0+1))<l.length by omega),zAc hl]
     rw[show 8-e.length=(8-(e.length+(0+1)))+1 by omega,zCf]
     simp
    ·rw[zAb (show ¬8-(e.length+(0+1))<l.length by omega),zAb hl]
     simp
def qI:List Pl:=[.free,.pure 0,.pure 0,.eff [false,true],.pure 1,.free,.eff [true,true],.free,.free,.eff [false,false]]
attribute [go_sem] qI
theorem aEk(b:Bool)(l:List Itm)(p:Txt)(hl:l.length≤1073741824)(H:AHeap):bD Tryz.prog 168 [.sl b (l.map itA),.str p] H (aCc (iZ l p)):=by
 refine fO Tryz.func168 ?_
 repeat' first|(refine gS ?_;simp only[go_sem])|refine gA ?_|(refine gD (fun h=>?_) (fun h=>?_)<;>try exact aA h)|fail
 refine aH (ι:=Nat) (fun i=>[(0,.sl b (l.map itA)),(1,.str p),(4,.ref H.length 0 0),(6,.int .i64 i)]) (fun _=>H++[.cells 0 (itA it0).cells]) (fun i=>i≤l.length∧iZ l p=iZ (l.drop i) p) (fun i=>l.length-i) 0 ⟨zAn _,rfl⟩ ?_ ?_ ?_
 ·simp[go_sem]
 ·rfl
 rintro i ⟨hi,he⟩
 by_cases hlt:i<l.length
 ·have hp:=aJ itA hlt
  have hli:decide ((i:Int)<(l.length:Int))=true:=dT
  rw[aIm hlt]at he
  by_cases hq:l[i].path=p
  ·have hd:decide (l[i].path=p)=true:=zAd hq
   rw[zAc hq]at he
   rw[he]
   unfold aCc
   repeat' first|(refine gS ?_;simp only[go_sem,hp,hli,hd,itA])|refine gA ?_|(refine gD (fun h=>?_) (fun h=>?_)<;>try exact aA h)|fail
   exact dY (.refl _)
  ·have hd:decide (l[i].path=p)=false:=eT hq
   rw[zAb hq]at he
   repeat' first|(refine gS ?_;simp only[go_sem,hp,hli,hd,itA])|refine gA ?_|(refine gD (fun h=>?_) (fun h=>?_)<;>try exact aA h)|fail
   exact⟨i+1,⟨hlt,he⟩,by omega,zAp _ (aK hlt (by omega))⟩
 ·have hli:decide ((i:Int)<(l.length:Int))=false:=dF
  rw[zAN (by omega),show iZ [] p=none from rfl]at he
  rw[he]
  unfold aCc
  repeat' first|(refine gS ?_;simp only[go_sem,hli,itA])|refine gA ?_|(refine gD (fun h=>?_) (fun h=>?_)<;>try exact aA h)|fail
  exact dY (.refl _)
theorem aBe(b:Bool)(l:List Itm)(x:Itm)(hl:l.length≤1073741824)(H:AHeap):bD Tryz.prog 167 [.sl b (l.map itA),itA x] H (.bool (jC l x)):=by
 refine fO Tryz.func167 ?_
 have hf:=aEk b l x.path hl
 unfold jC
 unfold aCc at hf
 cases hr:iZ l x.path with
 |none=>
  rw[hr]at hf
  simp only[itA]at hf ⊢
  repeat' first|(refine gS ?_;simp only[go_sem])|refine gA ?_|(refine gD (fun h=>?_) (fun h=>?_)<;>try exact aA h)|fail
  exact dY (.refl _)
 |some y=>
  rw[hr]at hf
  simp only[itA]at hf ⊢
  repeat' first|(refine gS ?_;simp only[go_sem])|refine gA ?_|(refine gD (fun h=>?_) (fun h=>?_)<;>try exact aA h)|fail
  exact dY (.refl _)
theorem aRL(b b2:Bool)(l k:List Nd)(dir:Int)(hc:chk l=true)(hw:Wfr l)(hc2:chk k=true)(hw2:Wfr k)(hd:dirI dir=true)(hl:l.length≤1000000)(hl2:k.length≤1000000)(hn:SmN l)(hn2:SmN k)(hs:NoS l)(hs2:NoS k)(H:AHeap):
  bD Tryz.prog 134 [.sl b (l.map ndA),.sl b2 (k.map ndA),.int .i64 dir] H (.sl false ((mA (cB l dir) (cB k dir)).map cY)):=by
 refine fO Tryz.func134 ?_
 have h1:=aCa b l dir hc hw hd hl hn
 have h2:=aCa b2 k dir hc2 hw2 hd hl2 hn2
 have p1:=zC hs dir
 have p2:=zC hs2 dir
 have w1:(cB l dir).length≤1000000:=by rw[←sV hw hd,xQ,zAc hc];exact zA2 (qF hc hw _ _ _ hd) hl
 have w2:(cB k dir).length≤1000000:=by rw[←sV hw2 hd,xQ,zAc hc2];exact zA2 (qF hc2 hw2 _ _ _ hd) hl2
 rw[←aLo p1 p2,aFH]
 generalize cB l dir=W at *
 generalize cB k dir=I at *
 obtain⟨f1,hf1⟩:∃f,f=fun t=>pI (!jC I t) 1 t:=⟨_,rfl⟩
 obtain⟨f2,hf2⟩:∃f,f=fun t=>pI (!jC W t) 2 t:=⟨_,rfl⟩
 obtain⟨f3,hf3⟩:∃f,f=fun t=>pI (qH W t) 3 t:=⟨_,rfl⟩
 rw[←hf1,←hf2,←hf3]
 have n1:∀L:List Itm,(L.flatMap f1).length≤L.length:=fun L=>yB _ (by rw[hf1];exact fun t=>aBd _ _ _) L
 have n2:∀L:List Itm,(L.flatMap f2).length≤L.length:=fun L=>yB _ (by rw[hf2];exact fun t=>aBd _ _ _) L
 have n3:∀L:List Itm,(L.flatMap f3).length≤L.length:=fun L=>yB _ (by rw[hf3];exact fun t=>aBd _ _ _) L
 repeat' first|(refine gS ?_;simp only[go_sem])|refine gA ?_|(refine gD (fun h=>?_) (fun h=>?_)<;>try exact aA h)|fail
 refine gI 9 2 rfl ?_
 have hw0:IntKind.i64.wrap ((W.length:Int)-1)=(W.length:Int)-1-(0:Nat):=by rw[wI];omega
 refine dB (ι:=Nat×AHeap) (fun x=>[(7,.sl false (W.map itA)),(8,.sl false (I.map itA)),(9,.osl 2 H.length (x.1+1) 0 (W.reverse.flatMap f1).length (W.reverse.flatMap f1).length)])
  (fun x=>H++.cells (x.1+1) (flA cY (W.reverse.flatMap f1))::x.2) (fun _=>True) ?_ ?_
 ·refine aH (ι:=Nat×Nat×List Evt×AHeap) (fun x=>[(7,.sl false (W.map itA)),(8,.sl false (I.map itA)),(9,.osl 2 H.length (x.2.1+1) 0 x.2.2.1.length x.2.2.1.length),(10,.int .i64 ((W.length:Int)-1-(x.1:Int)))])
   (fun x=>H++.cells (x.2.1+1) (flA cY x.2.2.1)::x.2.2.2) (fun x=>x.1≤W.length∧x.2.2.1=(W.reverse.take x.1).flatMap f1) (fun x=>W.length-x.1) (0,0,[],[]) ⟨zAn _,rfl⟩ ?_ ?_ ?_
  ·simp only[go_sem,hw0]
  ·rfl
  rintro⟨i,v,D,J⟩ ⟨hi,hD⟩
  simp only at hi hD ⊢
  have hDl:D.length≤i:=by rw[hD];exact zA2 (n1 _) (by rw[zAy];omega)
  obtain⟨G,hG⟩:∃G,H++.cells (v+1) (flA cY D)::J=G:=⟨_,rfl⟩
  rw[hG]
  have g0:hget G H.length=.cells (v+1) (flA cY D):=by rw[←hG];simp only[go_sem]
  have g1:=aR g0 trivial
  have g2:=eE g0 trivial
  have gs:∀X,aB G H.length X=H++(X::J):=fun X=>by rw[←hG];simp only[go_sem]
  have hfl:=bQ (enc:=cY) (s:=2) (fun _=>rfl) D
  by_cases hlt:i<W.length
  ·have hli:decide ((0:Int)≤(W.length:Int)-1-(i:Int))=true:=dT
   have hk0:((0:Int)≤(W.length:Int)-1-(i:Int))=True:=zAI (by omega)
   have hki:((W.length:Int)-1-(i:Int)<(W.length:Int))=True:=zAI (by omega)
   have hir:i<W.reverse.length:=by rw[zA9];exact hlt
   obtain⟨t,ht⟩:∃t,t=W.reverse[i]:=⟨_,rfl⟩
   have hidx:((W.length:Int)-1-(i:Int)).toNat=W.length-1-i:=by omega
   have hp:(W.map itA).getD ((W.length:Int)-1-(i:Int)).toNat .top=itA t:=by
    rw[hidx,aJ itA (show W.length-1-i<W.length by omega),ht,zCt]
   have htk:(W.reverse.take (i+1)).flatMap f1=D++f1 t:=by rw[zAa hir,zA0,←hD,←ht];simp
   have hsm:=aBe false I t (by omega)
   have hft:f1 t=pI (!jC I t) 1 t:=by rw[hf1]
   have hw1:IntKind.i64.wrap ((W.length:Int)-1-(i:Int)-1)=(W.length:Int)-1-((i+1:Nat):Int):=by rw[wI];omega
   have hq1:(∀e,e=AV.agg [.int .i64 1,.str t.path]→e.cells.length=2)=True:=zAI (fun e he=>by rw[he];rfl)
   clear hf1 hf2 hf3 n1 n2 n3 hD ht
   simp only[itA]at hp hsm
   cases hs:jC I t with
   |true=>
    rw[hs]at hsm hft
    rw[hft,pI,zAb (by simp),zAg]at htk
    repeat' first|(refine gS ?_;simp only[go_sem,hp,hli,hk0,hki,hw1])|refine gA ?_|(refine gD (fun h=>?_) (fun h=>?_)<;>try exact aA h)|fail
    exact⟨(i+1,v,D,J),⟨hlt,htk.symm⟩,by simp only;omega,⟨rfl,rfl⟩,hG.symm⟩
   |false=>
    rw[hs]at hsm hft
    rw[hft,pI,zAc (by simp)]at htk
    repeat' first|(refine gS ?_;simp only[go_sem,hp,hli,hk0,hki,hw1,g0,g1,g2,hfl,hq1])|refine gA ?_|(refine gD (fun h=>?_) (fun h=>?_)<;>try exact aA h)|fail
    exact⟨(i+1,v+1,D++[⟨1,t.path⟩],J),⟨hlt,htk.symm⟩,by simp only;omega,⟨by simp,rfl⟩,by rw[gs];simp[flA,cY,AV.cells]⟩
  ·have hli:decide ((0:Int)≤(W.length:Int)-1-(i:Int))=false:=dF
   have hie:i=W.length:=by omega
   have hD2:D=W.reverse.flatMap f1:=by rw[hD,hie,←zA9,zAq]
   clear hf1 hf2 hf3 n1 n2 n3 hD
   repeat' first|(refine gS ?_;simp only[go_sem,hli])|refine gA ?_|(refine gD (fun h=>?_) (fun h=>?_)<;>try exact aA h)|fail
   exact⟨(v,J),by simp only;rw[←hD2],by simp only;rw[←hD2,hG]⟩
 rintro⟨v0,J0⟩ _
 simp only
 obtain⟨A1,hA1⟩:∃A,A=W.reverse.flatMap f1:=⟨_,rfl⟩
 have a1:A1.length≤1000000:=by rw[hA1];exact zA2 (n1 _) (by rw[zA9];omega)
 rw[←hA1]
 repeat' first|(refine gS ?_;simp only[go_sem])|refine gA ?_|(refine gD (fun h=>?_) (fun h=>?_)<;>try exact aA h)|fail
 refine dB (ι:=Nat×AHeap) (fun x=>[(7,.sl false (W.map itA)),(8,.sl false (I.map itA)),(9,.osl 2 H.length (x.1+1) 0 (A1++I.flatMap f2).length (A1++I.flatMap f2).length)])
  (fun x=>H++.cells (x.1+1) (flA cY (A1++I.flatMap f2))::x.2) (fun _=>True) ?_ ?_
 ·refine aH (ι:=Nat×Nat×List Evt×AHeap) (fun x=>[(7,.sl false (W.map itA)),(8,.sl false (I.map itA)),(9,.osl 2 H.length (x.2.1+1) 0 x.2.2.1.length x.2.2.1.length),(12,.int .i64 x.1)])
   (fun x=>H++.cells (x.2.1+1) (flA cY x.2.2.1)::x.2.2.2) (fun x=>x.1≤I.length∧x.2.2.1=A1++(I.take x.1).flatMap f2) (fun x=>I.length-x.1) (0,v0,A1,J0) ⟨zAn _,(zAg _).symm⟩ ?_ ?_ ?_
  ·simp[go_sem]
  ·rfl
  rintro⟨i,v,D,J⟩ ⟨hi,hD⟩
  simp only at hi hD ⊢
  have hDl:D.length≤1000000+i:=by
   have:=n2 (I.take i)
   rw[zAy]at this
   rw[hD,zAe];omega
  obtain⟨G,hG⟩:∃G,H++.cells (v+1) (flA cY D)::J=G:=⟨_,rfl⟩
  rw[hG]
  have g0:hget G H.length=.cells (v+1) (flA cY D):=by rw[←hG];simp only[go_sem]
  have g1:=aR g0 trivial
  have g2:=eE g0 trivial
  have gs:∀X,aB G H.length X=H++(X::J):=fun X=>by rw[←hG];simp only[go_sem]
  have hfl:=bQ (enc:=cY) (s:=2) (fun _=>rfl) D
  by_cases hlt:i<I.length
  ·have hli:decide ((i:Int)<(I.length:Int))=true:=dT
   obtain⟨t,ht⟩:∃t,t=I[i]:=⟨_,rfl⟩
   have hp:=aJ itA hlt
   rw[←ht]at hp
   have htk:A1++(I.take (i+1)).flatMap f2=D++f2 t:=by rw[zAa hlt,zA0,←zAu,←hD,←ht];simp
   have hsm:=aBe false W t (by omega)
   have hft:f2 t=pI (!jC W t) 2 t:=by rw[hf2]
   have hw1:=aK hlt (by omega)
   have hq1:(∀e,e=AV.agg [.int .i64 2,.str t.path]→e.cells.length=2)=True:=zAI (fun e he=>by rw[he];rfl)
   clear hf1 hf2 hf3 n1 n2 n3 hD ht hA1
   simp only[itA]at hp hsm
   cases hs:jC W t with
   |true=>
    rw[hs]at hsm hft
    rw[hft,pI,zAb (by simp),zAg]at htk
    repeat' first|(refine gS ?_;simp only[go_sem,hp,hli])|refine gA ?_|(refine gD (fun h=>?_) (fun h=>?_)<;>try exact aA h)|fail
    exact⟨(i+1,v,D,J),⟨hlt,htk.symm⟩,by simp only;omega,⟨rfl,zAp _ hw1⟩,hG.symm⟩
   |false=>
    rw[hs]at hsm hft
    rw[hft,pI,zAc (by simp)]at htk
    repeat' first|(refine gS ?_;simp only[go_sem,hp,hli,g0,g1,g2,hfl,hq1])|refine gA ?_|(refine gD (fun h=>?_) (fun h=>?_)<;>try exact aA h)|fail
    exact⟨(i+1,v+1,D++[⟨2,t.path⟩],J),⟨hlt,htk.symm⟩,by simp only;omega,⟨by simp,zAp _ hw1⟩,by rw[gs];simp[flA,cY,AV.cells]⟩
  ·have hli:decide ((i:Int)<(I.length:Int))=false:=dF
   have hie:i=I.length:=by omega
   have hD2:D=A1++I.flatMap f2:=by rw[hD,hie,zAq]
   have hDn:D.length=A1.length+(I.flatMap f2).length:=by rw[hD2,zAe]
   clear hf1 hf2 hf3 n1 n2 n3 hD
   repeat' first|(refine gS ?_;simp only[go_sem,hli])|refine gA ?_|(refine gD (fun h=>?_) (fun h=>?_)<;>try exact aA h)|fail
   exact⟨(v,J),by simp only;rw[←hDn],by simp only;rw[←hD2,hG]⟩
 rintro⟨v1,J1⟩ _
 simp only
 obtain⟨A2,hA2⟩:∃A,A=A1++I.flatMap f2:=⟨_,rfl⟩
 have a2:A2.length≤2000000:=by
  have:=n2 I
  rw[hA2,zAe];omega
 rw[←hA2]
 repeat' first|(refine gS ?_;simp only[go_sem])|refine gA ?_|(refine gD (fun h=>?_) (fun h=>?_)<;>try exact aA h)|fail
 refine aH (ι:=Nat×Nat×List Evt×AHeap) (fun x=>[(7,.sl false (W.map itA)),(8,.sl false (I.map itA)),(9,.osl 2 H.length (x.2.1+1) 0 x.2.2.1.length x.2.2.1.length),(14,.int .i64 x.1)])
   (fun x=>H++.cells (x.2.1+1) (flA cY x.2.2.1)::x.2.2.2) (fun x=>x.1≤I.length∧x.2.2.1=A2++(I.take x.1).flatMap f3) (fun x=>I.length-x.1) (0,v1,A2,J1) ⟨zAn _,(zAg _).symm⟩ ?_ ?_ ?_
 ·simp[go_sem]
 ·rfl
 rintro⟨i,v,D,J⟩ ⟨hi,hD⟩
 simp only at hi hD ⊢
 have hDl:D.length≤2000000+i:=by
  have:=n3 (I.take i)
  rw[zAy]at this
  rw[hD,zAe];omega
 obtain⟨G,hG⟩:∃G,H++.cells (v+1) (flA cY D)::J=G:=⟨_,rfl⟩
 rw[hG]
 have g0:hget G H.length=.cells (v+1) (flA cY D):=by rw[←hG];simp only[go_sem]
 have g1:=aR g0 trivial
 have g2:=eE g0 trivial
 have g3:∀c,hget (G++[c]) H.length=.cells (v+1) (flA cY D):=fun c=>aG g0 trivial _
 have hGl:H.length<G.length:=aU g0 trivial
 have g4:∀c X,aB (G++[c]) H.length X=aB G H.length X++[c]:=fun c X=>bE hGl _ _
 have gs:∀X,aB G H.length X=H++(X::J):=fun X=>by rw[←hG];simp only[go_sem]
 have hfl:=bQ (enc:=cY) (s:=2) (fun _=>rfl) D
 by_cases hlt:i<I.length
 ·have hli:decide ((i:Int)<(I.length:Int))=true:=dT
  obtain⟨t,ht⟩:∃t,t=I[i]:=⟨_,rfl⟩
  have hp:=aJ itA hlt
  rw[←ht]at hp
  have htk:A2++(I.take (i+1)).flatMap f3=D++f3 t:=by rw[zAa hlt,zA0,←zAu,←hD,←ht];simp
  have hsm:=aBe false W t (by omega)
  have hfd:=aEk false W t.path (by omega)
  have hft:f3 t=pI (qH W t) 3 t:=by rw[hf3]
  have hw1:=aK hlt (by omega)
  have hq1:(∀e,e=AV.agg [.int .i64 3,.str t.path]→e.cells.length=2)=True:=zAI (fun e he=>by rw[he];rfl)
  clear hf1 hf2 hf3 n1 n2 n3 hD ht hA1 hA2
  unfold qH at hft
  have hki:((i:Int)<(I.length:Int))=True:=zAI (by omega)
  have hk0:((0:Int)≤(i:Int))=True:=zAI (by omega)
  obtain⟨y,b,hfa,hyb⟩:∃y b,aCc (iZ W t.path)=.tup [itA y,.bool b]∧((iZ W t.path).getD it0)=y:=by
   unfold aCc
   cases iZ W t.path with
   |none=>exact⟨it0,false,rfl,rfl⟩
   |some y=>exact⟨y,true,rfl,rfl⟩
  rw[hfa]at hfd
  rw[hyb]at hft
  clear hfa hyb
  simp only[itA]at hp hsm hfd
  cases hs:jC W t with
  |false=>
   rw[hs]at hsm hft
   rw[hft,pI,zAb (by simp),zAg]at htk
   repeat' first|(refine gS ?_;simp only[go_sem,hp,hli,hk0,hki])|refine gA ?_|(refine gD (fun h=>?_) (fun h=>?_)<;>try exact aA h)|fail
   exact⟨(i+1,v,D,J++[.cells 0 (itA y).cells]),⟨hlt,htk.symm⟩,by simp only;omega,⟨rfl,zAp _ hw1⟩,by rw[←hG];simp[itA,AV.cells]⟩
  |true=>
   rw[hs]at hsm hft
   by_cases hq:y.data=t.data
   ·have hd:decide (y.data=t.data)=true:=zAd hq
    rw[hd]at hft
    rw[hft,pI,zAb (by simp),zAg]at htk
    repeat' first|(refine gS ?_;simp only[go_sem,hp,hli,hd,hk0,hki])|refine gA ?_|(refine gD (fun h=>?_) (fun h=>?_)<;>try exact aA h)|fail
    exact⟨(i+1,v,D,J++[.cells 0 (itA y).cells]),⟨hlt,htk.symm⟩,by simp only;omega,⟨rfl,zAp _ hw1⟩,by rw[←hG];simp[itA,AV.cells]⟩
   ·have hd:decide (y.data=t.data)=false:=eT hq
    rw[hd]at hft
    rw[hft,pI,zAc (by simp)]at htk
    repeat' first|(refine gS ?_;simp only[go_sem,hp,hli,hd,g0,g1,g2,g3,g4,hfl,hq1,hk0,hki])|refine gA ?_|(refine gD (fun h=>?_) (fun h=>?_)<;>try exact aA h)|fail
    exact⟨(i+1,v+1,D++[⟨3,t.path⟩],J++[.cells 0 (itA y).cells]),⟨hlt,htk.symm⟩,by simp only;omega,⟨by simp,zAp _ hw1⟩,by rw[gs];simp[flA,cY,itA,AV.cells]⟩
 ·have hli:decide ((i:Int)<(I.length:Int))=false:=dF
  have hie:i=I.length:=by omega
  have hD2:A2++I.flatMap f3=D:=by rw[hD,hie,zAq]
  rw[hA2]at hD2
  clear hf1 hf2 hf3 n1 n2 n3 hD
  repeat' first|(refine gS ?_;simp only[go_sem,hli])|refine gA ?_|(refine gD (fun h=>?_) (fun h=>?_)<;>try exact aA h)|fail
  rw[←zAu,hD2]
  exact⟨_,_,hG.symm,iC (es:=D.map cY) (rest:=[]) (zAh _) g0 (zAg _).symm (zAj ..) (fun e he=>by(obtain⟨x,_,rfl⟩:=zAi.1 he;rfl)) (fun e he=>by(obtain⟨x,_,rfl⟩:=zAi.1 he;simp only[cY,go_sem])),rfl⟩
theorem aLq(f b o:Bool)(e l:List Evt)(hl:l.length≤1000000)(ho:o=false→e.length≤8)(he:e.length≤9)(H:AHeap):bD Tryz.prog 133 [.agg [.sl f (e.map cY),.bool o],.sl b (l.map cY)] H (.agg [.sl false ((lM e o l).1.map cY),.bool (lM e o l).2]):=by
 refine fO Tryz.func133 ?_
 rw[←aLp l e o ho]
 repeat' first|(refine gS ?_;simp only[go_sem])|refine gA ?_|(refine gD (fun h=>?_) (fun h=>?_)<;>try exact aA h)|fail
 refine aH (ι:=Nat×Bool×(List Evt×Bool)×AHeap) (fun x=>[(1,.sl b (l.map cY)),(2,.ref H.length 0 0),(4,.ref (H.length+1) 0 0),(5,.int .i64 x.1)])
  (fun x=>H++.cells 0 [.sl x.2.1 (x.2.2.1.1.map cY),.bool x.2.2.1.2]::.cells 0 [.sl true [],.bool false]::x.2.2.2)
  (fun x=>x.1≤l.length∧x.2.2.1.1.length≤9∧(x.2.2.1.2=false→x.2.2.1.1.length≤8)∧l.foldl aEj (e,o)=(l.drop x.1).foldl aEj x.2.2.1) (fun x=>l.length-x.1) (0,f,(e,o),[]) ⟨zAn _,he,ho,rfl⟩ ?_ ?_ ?_
 ·simp[go_sem]
 ·rfl
 rintro⟨i,fl,⟨q,ov⟩,J⟩ ⟨hi,h9,h8,hf⟩
 simp only at hi h9 h8 hf ⊢
 obtain⟨G,hG⟩:∃G,H++.cells 0 [.sl fl (q.map cY),.bool ov]::.cells 0 [.sl true [],.bool false]::J=G:=⟨_,rfl⟩
 rw[hG]
 have g0:hget G H.length=.cells 0 [.sl fl (q.map cY),.bool ov]:=by rw[←hG];simp only[go_sem]
 have g1:=aR g0 trivial
 have g2:=eE g0 trivial
 have g5:hget G (H.length+1)=.cells 0 [.sl true [],.bool false]:=by rw[←hG];simp only[go_sem]
 have gs:∀X,aB G H.length X=H++(X::.cells 0 [.sl true [],.bool false]::J):=fun X=>by rw[←hG];simp only[go_sem]
 have hGL:G.length=H.length+(J.length+2):=by rw[←hG];simp
 have frz:∀{N:Nat} {code:Code} {Q:bI} {α:AF} (x:Evt) (w:Bool) (X:ABlk) (C:List AV),C=List.flatMap AV.cells (q.map cY)++(cY x).cells→
   aw Tryz.prog N code Q α (H++(.cells 0 [.sl false ((q++[x]).map cY),.bool w]::.cells 0 [.sl true [],.bool false]::(J++[X,.gone])))→
   aw Tryz.prog N code Q α (aB G H.length (.cells 0 [.osl 2 (G.length+1) 2 0 (q.length+1) (q.length+1),.bool w])++[X,.cells 2 C]):=fun x w X C hC h=>by
  refine aMS (v:=0) (vb:=2) (s:=2) (lc:=q.length+1) (cs:=[.osl 2 (G.length+1) 2 0 (q.length+1) (q.length+1),.bool w]) (bs:=C) H.length (G.length+1) 0 ((q++[x]).map cY) [] (by omega) (aG (b:=.cells 0 [.osl 2 (G.length+1) 2 0 (q.length+1) (q.length+1),.bool w]) (bU (aU g0 trivial) _) trivial _) (by simp) ((vH (k:=1) (bK G _ _)).trans rfl) (by omega) (by rw[hC];simp) (fun e he=>by(obtain⟨x,_,rfl⟩:=zAi.1 he;rfl)) ?_
  have e:aB (aB (aB G H.length (.cells 0 [.osl 2 (G.length+1) 2 0 (q.length+1) (q.length+1),.bool w])++[X,.cells 2 C]) (G.length+1) .gone) H.length (.cells 0 ([AV.osl 2 (G.length+1) 2 0 (q.length+1) (q.length+1),.bool w].set 0 (.sl false ((q++[x]).map cY))))=H++(.cells 0 [.sl false ((q++[x]).map cY),.bool w]::.cells 0 [.sl true [],.bool false]::(J++[X,.gone])):=by
   rw[gs,hGL]
   simp[aB,zB2,zCc]
  rw[e]
  exact h
 have gs2:∀X,aB G (H.length+1) X=H++(.cells 0 [.sl fl (q.map cY),.bool ov]::X::J):=fun X=>by rw[←hG];simp only[go_sem]
 have hfl:(List.flatMap AV.cells (q.map cY)).length=q.length * 2:=bQ (enc:=cY) (s:=2) (fun _=>rfl) q
 have hcq:∀e∈q.map cY,e.cells.length=2:=fun e he=>by(obtain⟨x,_,rfl⟩:=zAi.1 he;rfl)
 have hGl:H.length<G.length:=aU g0 trivial
 by_cases hlt:i<l.length
 ·have hli:decide ((i:Int)<(l.length:Int))=true:=dT
  have hgd:=aJ cY hlt
  rw[zAk hlt,zAZ,aEj]at hf
  cases ov with
  |true=>
   rw[zAc rfl,yC]at hf
   repeat' first|((first|refine mx [8] qI ?_|refine gS ?_);simp only[go_sem,hli,hgd,g0,g1,g2,g5,gs2,cY])|refine gA ?_|(refine gD (fun h=>?_) (fun h=>?_)<;>try exact aA h)|fail
   rw[hf]
   exact dY (.agg _ _ rfl (aD (.sl _ _) (aD (.refl _) bJ)))
  |false=>
   rw[zAb (by simp)]at hf
   by_cases h88:8≤q.length
   ·have hd8:decide ((8:Int)≤(q.length:Int))=true:=dT
    simp only at hf
    rw[zAc h88]at hf
    repeat' first|((first|refine mx [8] qI ?_|refine gS ?_);simp only[go_sem,hli,hgd,g0,g1,g2,hd8,cY])|refine gA ?_|(refine gD (fun h=>?_) (fun h=>?_)<;>try exact aA h)|fail
    refine⟨⟨.inl trivial,hcq,by omega⟩,⟨hfl.symm,fun e he=>by(rw[he];rfl),by omega⟩,?_⟩
    refine frz ⟨9,[]⟩ true _ _ rfl ?_
    repeat' first|(refine gS ?_;simp only[go_sem])|refine gA ?_|(refine gD (fun h=>?_) (fun h=>?_)<;>try exact aA h)|fail
    exact⟨(i+1,false,(q++[⟨9,[]⟩],true),J++[_,_]),⟨hlt,by(have:=h8 rfl;simp;omega),fun h=>(by cases h),hf⟩,by simp only;omega,zAp _ (aK hlt (by omega)),rfl⟩
   ·have hd8:decide ((8:Int)≤(q.length:Int))=false:=dF
    simp only at hf
    rw[zAb h88]at hf
    repeat' first|((first|refine mx [8] qI ?_|refine gS ?_);simp only[go_sem,hli,hgd,g0,g1,g2,hd8,cY])|refine gA ?_|(refine gD (fun h=>?_) (fun h=>?_)<;>try exact aA h)|fail
    refine⟨⟨.inl trivial,hcq,by omega⟩,⟨hfl.symm,fun e he=>by(rw[he];rfl),by omega⟩,?_⟩
    refine frz l[i] false _ _ rfl ?_
    repeat' first|(refine gS ?_;simp only[go_sem])|refine gA ?_|(refine gD (fun h=>?_) (fun h=>?_)<;>try exact aA h)|fail
    exact⟨(i+1,false,(q++[l[i]],false),J++[_,_]),⟨hlt,by(simp;omega),fun _=>(by simp;omega),hf⟩,by simp only;omega,zAp _ (aK hlt (by omega)),rfl⟩
 ·have hli:decide ((i:Int)<(l.length:Int))=false:=dF
  rw[zAN (by omega)]at hf
  repeat' first|(refine gS ?_;simp only[go_sem,hli,g0,g1,g2,g5,gs2])|refine gA ?_|(refine gD (fun h=>?_) (fun h=>?_)<;>try exact aA h)|fail
  rw[show l.foldl aEj (e,o)=(q,ov)from hf]
  exact dY (.agg _ _ rfl (aD (.sl _ _) (aD (.refl _) bJ)))
end Go.Proofs.YtolbeecicikoaaaGreatDoor

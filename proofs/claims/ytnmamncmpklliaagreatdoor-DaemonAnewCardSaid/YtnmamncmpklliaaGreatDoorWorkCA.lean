/- What the functions of this seat answer (53 of 53). No condition. -/
import Derived.Test.YtnmamncmpklliaaGreatDoorWorkBY
import Derived.Test.YtnmamncmpklliaaGreatDoorWorkBZ
set_option linter.unusedSimpArgs false
set_option linter.unusedVariables false
set_option maxRecDepth 100000
set_option maxHeartbeats 16000000
namespace Go.Proofs.YtnmamncmpklliaaGreatDoor
theorem KM{l:List Ord}{n:Int}(h:sy l n=true):∀o∈l,np o.call/\o.cz.length<=1048576:=λo J=>by
 unfold sy at h;simp only[cV,gm]at h;have:=h.1 o J;unfold wb Dg JP at this;simp at this;exact⟨⟨iV,iV,iV⟩,iV⟩
theorem zv.eq{d x:dJ}{k:Nat}{r:Int}(h:zv d x k r):∃(ops:List aX) (w:bO),ops=d.c.ops.take k/\ops.length=k/\w.kept=k/\w.next=k+1/\w.seq=d.w.seq/\x=⟨{qZ with m:=qF (j2 r).1 ops,ops:=ops,g:=⟨k,[]⟩},w,k⟩:=by
 have hl:=h.len;obtain⟨K,J,xs⟩:=x;have U:=h.c;have hs:=h.uR;simp only at U hs hl;refine⟨d.c.ops.take k,J,rfl,by rw[U]at hl;exact hl,h.aBo,h.next,h.seq,?_⟩
 rw[U,hs]
def aCH:List cu:=[.pure 0,.free,.free,.pure 0,.pure 0,.pure 0,.free,.free,.free,.eff [true,true,true,true],.eff [false,false,false,false],.free]
attribute [go_sem] aCH
theorem aHj(s:Int)(f:Bool)(l:List Ord)(p:ag)(H:ab):aM Tryz.prog 4 [.int .u8 s,.sl f<|l.map hM,.str p] H (.bool true):=by
 refine OV λk1 k2 k3=>?_
 have hs:0<=s/\s<=255:=GK k1;have ek:=aKr k3;refine aZ Tryz.func4 ?_;have HR:=Nq;have lE:IntKind.i64.wrap s=s:=bI;have J:=Dh 2 s;have hm:=X6 2;have qj:j2 2=({mz with rep:=2,next:=1},0):=rfl
 rw[qj]at hm;have ax:=Kt f l 100;obtain⟨ki,V⟩:∃ki,sy l 100=ki:=⟨_,rfl⟩;rw[V]at ax;obtain⟨X,cS⟩:∃X,jK 2 s=X:=⟨_,rfl⟩;have U:=λh=>eX.new (r:=2) (s:=s) iV h
 rw[cS]at J U;obtain⟨d,e⟩:=X;simp only at J U;by_cases mT:ki=true/\p.length<=1000/\e=0
 ·obtain⟨rfl,ad,rfl⟩:=mT;have U:=U rfl;have iZ:=KM V;have hJ:=(show l.all wb=true/\(l.length:Int)<=100 by unfold sy at V;simpa using V).2
  have Mq:decide ((1000:Int)<(p.length:Int))=false:=cQ;obtain⟨D,Z⟩:∃D:Nat->dJ,∀q,D q=zR d (l.take q):=⟨_,λ_=>rfl⟩
  have vt:∀q,eX q 2 (D q):=λq=>by
   have:=U.Ez (l:=l) (λo aD=>(iZ o aD).1) q
   rw[j9]at this;rw[Z];exact this
  have vu:∀q (h:q<l.length),D (q+1)=(sX (D q) l[q]).1:=λq h=>by rw[Z,Z];exact I9 h
  have aw:D 0=d:=Z 0;rw[<-aw]at J;clear aw U cS;obtain⟨N,eU⟩:∃N,D l.length=N:=⟨_,rfl⟩;have z:=vt l.length;rw[eU]at z;obtain⟨c1,tX,k,nY⟩:=z.rU p;have uK:=z.fF.do iV (o:=⟨2,oO,0,p⟩)<|by simp only;omega
  have T:=Di N uK.w p uK.CX uK.B3;obtain⟨Y,ji⟩:∃Y,lx N p=Y:=⟨_,rfl⟩;rw[ji]at T c1 tX nY;obtain⟨y,aSe⟩:=Y;simp only at T c1 tX nY;subst c1;obtain⟨ops,w,cq,cT,dP,mA,xI,K⟩:=nY.eq;have Mz:∀o∈ops,hD o:=λo aD=>Dw<|z.ok o (uZ (cq▸aD))
  have r4:ops.length<=2200:=by have:=tX.fF.aBF;rw[K]at this;exact this
  have xj:=Vv false false false false false {mz with rep:=2,next:=1} ops ⟨by simp[mz],by simp[mz],by simp[mz];omega⟩ iV Mz
  have jF:=Oy false false false false false false false false (qF {mz with rep:=2,next:=1} ops)<|qF {mz with rep:=2,next:=1} ops
  rw[cD rfl]at jF;rw[qj]at K;have E1:IntKind.i64.wrap ((k:Int)+1)=(k:Int)+1:=bI;subst K;obtain⟨m,aPe⟩:∃m,qF {mz with rep:=2,next:=1} ops=m:=⟨_,rfl⟩
  simp only[aPe]at T xj jF;unfold cR at J T;simp only[en,qZ,FY,hj]at J T;simp only[ih,oo,mz,hj]at hm xj jF;repeat' first|(refine ae ?_;simp only[go_sem,lE,Mq])|refine bt ?_|(refine bB ?_ ?_<;>intro h<;>try exact bA h)|fail
  obtain⟨B,bX⟩:∃B:List I,B=(ih false false false false {mz with rep:=2,next:=1}).cells:=⟨_,rfl⟩
  refine cE (ι:=Nat×ab) (λx=>[(1,.sl f<|l.map hM),(2,.str p),(7,.bool true),(8,.ref H.length 0 0),(10,.ref (H.length+1) 0 0),(12,.int .i64 x.1)]) (λx=>H++.cells 0 (cR<|D x.1).cells::.cells 0 B::x.2) (λx=>x.1<=l.length) (λx=>l.length-x.1) (0,[]) (bW _) ?_ (by rw[bX];rfl) ?_
  ·simp[go_sem]
  rintro⟨q,M⟩ aJ;simp only at aJ ⊢;obtain⟨x,J⟩:∃x,D q=x:=⟨_,rfl⟩;rw[J];obtain⟨G,aW⟩:∃G,H++.cells 0 (cR x).cells::.cells 0 B::M=G:=⟨_,rfl⟩;rw[aW];have g0:ay G H.length=.cells 0 (cR x).cells:=by rw[<-aW];simp only[go_sem]
  have g1:ay G (H.length+1)=.cells 0 B:=by rw[<-aW];simp only[go_sem]
  have gs:∀X,ar G H.length X=H++X::.cells 0 B::M:=λX=>by rw[<-aW];simp only[go_sem]
  have k0:=bC g0 trivial;have w7:=bC g1 trivial;have vq:=gN g0 trivial;unfold cR at g0 k0 ⊢;simp only[en,I.cells]at g0 k0 ⊢;by_cases O:q<l.length
  ·have ck:=di hM O;have bg:decide ((q:Int)<(l.length:Int))=true:=cK;have yT:=(vt q).fF.do iV (o:=l[q]) (by have:=(iZ _ (ga O)).2;omega)
   have gr:=G6 (D q) l[q] yT;obtain⟨y,K⟩:∃y,D (q+1)=y:=⟨_,rfl⟩;rw[<-vu q O,K,J]at gr;generalize l[q]=o at *;simp only[hM]at ck gr;unfold cR at gr;simp only[en]at gr;repeat' first|((first|refine mx [9] aCH ?_|refine ae ?_);simp only[go_sem,ck,bg,O,g0,g1,k0,w7,gs,vq])|refine bt ?_|(refine bB ?_ ?_<;>intro h<;>try exact bA h)|fail
   exact⟨(q+1,M++[.cells 0 (cR y).cells]),O,by simp only;omega,bU _<|dA O iV,by simp only[K];unfold cR;simp only[en,I.cells,dr,iN]⟩
  ·have oc:q=l.length:=iV
   subst oc;rw[eU]at J;subst J;have bg:decide ((l.length:Int)<(l.length:Int))=false:=cQ;rw[bX]at g1 w7;simp only[ih,oo,mz,hj,I.cells]at g1 w7;repeat' first|(refine ae ?_;simp only[go_sem,bg,g0,g1,k0,w7,cT,dP,mA,E1])|refine bt ?_|(refine bB ?_ ?_<;>intro h<;>try exact bA h)|fail
   exact BB aW nb<|.of kk
 ·unfold cR at J;simp only[en]at J;simp only[ih,oo,mz,hj]at hm;repeat' first|(refine ae ?_;simp only[go_sem,lE])|refine bt ?_|(refine bB ?_ ?_<;>intro h<;>try exact bA h)|fail
  ·exact aV<|.of rfl
  ·exfalso;simp at h;exact mT ⟨h.1.1,iV,h.2⟩
end Go.Proofs.YtnmamncmpklliaaGreatDoor

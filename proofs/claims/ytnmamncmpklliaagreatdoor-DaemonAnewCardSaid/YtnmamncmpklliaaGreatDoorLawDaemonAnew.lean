/- The row of DaemonAnew: the walk's contract, put into the row's own words. No condition. -/
import Derived.Test.YtnmamncmpklliaaGreatDoorWorkCA
import Derived.Test.YtnmamncmpklliaaGreatDoorRows
import Derived.Test.YtnmamncmpklliaaGreatDoorCards
import Derived.Test.YtnmamncmpklliaaGreatDoorTie
import Derived.LaidMore
import Derived.Lay
import Derived.SevenTiedAt
set_option linter.unusedSimpArgs false
set_option linter.unusedVariables false
set_option linter.unusedSectionVars false
set_option maxRecDepth 100000
set_option maxHeartbeats 16000000
namespace Go.Proofs.YtnmamncmpklliaaGreatDoor
open Go.Proofs.Tryz
theorem W5(a b:dx):(decide (a.lock=b.lock)&&decide (a.aU=b.aU))=decide (a=b):=by
 obtain⟨_,_⟩:=a;obtain⟨_,_⟩:=b;rw[pf];simp
theorem Vy(aO bo:Bool)(l m:List dx)(H:ab):aM prog 138 [.sl aO (l.map bx),.sl bo<|m.map bx] H (.bool<|decide (l=m)):=by
 refine po λU _=>?_
 have hl:=oi U;rw[cv]at hl;refine aZ func138 ?_;repeat' first|(refine ae ?_;simp only[go_sem])|refine bt ?_|(refine bB ?_ ?_<;>intro h<;>try exact bA h)|fail
 ·exact bD<|.of (by rw[bN (λe=>by subst e;simp at h)])
 ·have hlen:l.length=m.length:=by simp at h;omega
  refine cE (ι:=Nat) (λi=>[(0,.sl aO<|l.map bx),(1,.sl bo<|m.map bx),(5,.int .i64 i)]) (λ_=>H) (λi=>i<=l.length/\l.take i=m.take i) (λi=>l.length-i) 0 ⟨bW _,rfl⟩ ?_ rfl ?_
  ·simp[go_sem]
  ·rintro i ⟨hi,he⟩;by_cases J:i<l.length
   ·have ad:=di bx J;have aJ:=di bx<|show i<m.length by omega
    repeat' first|(refine ae ?_;simp only[go_sem,ad,aJ,bx])|refine bt ?_|(refine bB ?_ ?_<;>intro h<;>try exact bA h)|fail
    ·rw[W5]at h;have K:l[i]≠m[i]:=by simpa using h
     exact bD<|.of (by rw[bN (λe=>K (by subst e;rfl))])
    ·rw[W5]at h;have heq:l[i]=m[i]:=by simpa using h
     exact⟨i+1,⟨J,by rw[fj J,fj iV,he,heq]⟩,iV,by rw[bI];rfl⟩
   ·have O:i=l.length:=iV
    subst O;repeat' first|(refine ae ?_;simp only[go_sem])|refine bt ?_|(refine bB ?_ ?_<;>intro h<;>try exact bA h)|fail
    exact bD<|.of (by rw[cD (by rw[eG,hlen,eG]at he;exact he)])
theorem aH2(t:fl)(H:ab):aM prog 85 [fB false false t,fB false false t] H (.bool true):=by
 refine aZ func85 ?_;have h1:=Vy false false t.held t.held;have h2:=Vy false false t.waits t.waits;rw[cD rfl]at h1 h2;simp only[fB];repeat' first|(refine ae ?_;simp only[go_sem])|refine bt ?_|(refine bB ?_ ?_<;>intro h<;>try exact bA h)|fail
 exact aV<|.refl _
theorem aH3(g:nU)(hl:g.waits.length<=1000000)(H:ab):aM prog 86 [kK false g,kK false g] H (.bool true):=by
 refine aZ func86 ?_;obtain⟨k,l⟩:=g;simp only at hl;simp only[kK];repeat' first|(refine ae ?_;simp only[go_sem])|refine bt ?_|(refine bB ?_ ?_<;>intro h<;>try exact bA h)|fail
 obtain⟨B,K⟩:∃B:List I,B=[.int .i64 k,.sl false<|l.map dy]:=⟨_,rfl⟩;refine cE (ι:=Nat) (λs=>[(2,.ref H.length 0 0),(3,.ref (H.length+1) 0 0),(4,.bool false),(5,.int .i64 s)]) (λ_=>H++[.cells 0 B,.cells 0 B]) (λs=>s<=l.length) (λs=>l.length-s) 0 (bW _) ?_ (by rw[K]) ?_
 ·simp[go_sem]
 intro q aJ;rw[K];by_cases J:q<l.length
 ·have O:=di dy J;have U:decide ((q:Int)<(l.length:Int))=true:=cK;generalize l[q]=w at *;simp only[dy]at O;repeat' first|(refine ae ?_;simp only[go_sem,O,U,J])|refine bt ?_|(refine bB ?_ ?_<;>intro h<;>try exact bA h)|fail
  exact⟨q+1,J,iV,bU _<|dA J iV⟩
 ·have U:decide ((q:Int)<(l.length:Int))=false:=cQ;repeat' first|(refine ae ?_;simp only[go_sem,U])|refine bt ?_|(refine bB ?_ ?_<;>intro h<;>try exact bA h)|fail
  exact aV<|.refl _
theorem aH4(d:ft)(hl:d.loose.length<=1000000)(H:ab):aM prog 88 [fW false d,fW false d] H (.bool true):=by
 refine aZ func88 ?_;obtain⟨z,t,l⟩:=d;simp only at hl;simp only[fW];repeat' first|(refine ae ?_;simp only[go_sem])|refine bt ?_|(refine bB ?_ ?_<;>intro h<;>try exact bA h)|fail
 obtain⟨B,K⟩:∃B:List I,B=[.int .i64 z,.str t,.sl false<|l.map eO]:=⟨_,rfl⟩;refine cE (ι:=Nat) (λs=>[(2,.ref H.length 0 0),(3,.ref (H.length+1) 0 0),(4,.bool false),(5,.int .i64 s)]) (λ_=>H++[.cells 0 B,.cells 0 B]) (λs=>s<=l.length) (λs=>l.length-s) 0 (bW _) ?_ (by rw[K]) ?_
 ·simp[go_sem]
 intro q aJ;rw[K];by_cases J:q<l.length
 ·have O:=di eO J;have U:decide ((q:Int)<(l.length:Int))=true:=cK;generalize l[q]=w at *;simp only[eO]at O;repeat' first|(refine ae ?_;simp only[go_sem,O,U,J])|refine bt ?_|(refine bB ?_ ?_<;>intro h<;>try exact bA h)|fail
  exact⟨q+1,J,iV,bU _<|dA J iV⟩
 ·have U:decide ((q:Int)<(l.length:Int))=false:=cQ;repeat' first|(refine ae ?_;simp only[go_sem,U])|refine bt ?_|(refine bB ?_ ?_<;>intro h<;>try exact bA h)|fail
  exact aV<|.refl _
theorem aH5(w:bO)(hl:w.bw.loose.length<=1000000)(H:ab):aM prog 43 [dN false false w,dN false false w] H (.bool true):=by
 refine aZ func43 ?_;have h1:=aH4 w.bw hl;have h2:=Xb false false w.waits w.waits;rw[cD rfl]at h2;simp only[fW]at h1;simp only[dN];repeat' first|(refine ae ?_;simp only[go_sem])|refine bt ?_|(refine bB ?_ ?_<;>intro h<;>try exact bA h)|fail
 exact aV<|.refl _
theorem aH6(x:bK)(V:x.g.waits.length<=1000000)(af:x.aC.length<=1000000)(H:ab):aM prog 42 [hx false false false false false false false false false x,hx false false false false false false false false false x] H (.bool true):=by
 refine aZ func42 ?_;have h1:=Oy false false false false false false false false x.m x.m;have h2:=aH2 x.t;have h3:=aH3 x.g V;have h4:=Kd false false x.ops x.ops;rw[cD rfl]at h1 h4;simp only[ih,oo]at h1;simp only[fB]at h2;simp only[kK]at h3;simp only[hx,kC];repeat' first|(refine ae ?_;simp only[go_sem])|refine bt ?_|(refine bB ?_ ?_<;>intro h<;>try exact bA h)|fail
 obtain⟨B,O⟩:∃B:List I,B=(hx false false false false false false false false false x).cells:=⟨_,rfl⟩;refine cE (ι:=Nat) (λs=>[(2,.ref H.length 0 0),(3,.ref (H.length+1) 0 0),(4,.bool false),(9,.int .i64 s)]) (λ_=>H++[.cells 0 B,.cells 0 B]) (λs=>s<=x.aC.length) (λs=>x.aC.length-s) 0 (bW _) ?_ (by rw[O];rfl) ?_
 ·simp[go_sem]
 intro q aJ;rw[O];simp only[hx,kC,I.cells];by_cases J:q<x.aC.length
 ·have T:=di aU J;have U:decide ((q:Int)<(x.aC.length:Int))=true:=cK;have K:=aLz false false false false false false x.aC[q] x.aC[q];rw[cD rfl]at K;generalize x.aC[q]=w at *;simp only[<-aKn]at K;simp only[aU]at T K;repeat' first|(refine ae ?_;simp only[go_sem,T,U,J])|refine bt ?_|(refine bB ?_ ?_<;>intro h<;>try exact bA h)|fail
  exact⟨q+1,J,iV,bU _<|dA J iV⟩
 ·have U:decide ((q:Int)<(x.aC.length:Int))=false:=cQ;repeat' first|(refine ae ?_;simp only[go_sem,U])|refine bt ?_|(refine bB ?_ ?_<;>intro h<;>try exact bA h)|fail
  exact aV<|.refl _
theorem aH7(d:dJ)(J:d.c.g.waits.length<=1000000)(af:d.c.aC.length<=1000000)(hl:d.w.bw.loose.length<=1000000)(H:ab):aM prog 20 [cR d,cR d] H (.bool true):=by
 refine aZ func20 ?_;have h1:=aH6 d.c J af;have h2:=aH5 d.w hl;simp only[hx,kC]at h1;simp only[dN]at h2;unfold cR;simp only[en];repeat' first|(refine ae ?_;simp only[go_sem])|refine bt ?_|(refine bB ?_ ?_<;>intro h<;>try exact bA h)|fail
 exact aV<|.refl _
section
def SH:List cu:=[.pure 0,.free,.free,.pure 0,.pure 0,.pure 0,.free,.free,.free,.eff [true,true,true,true],.eff [false,false,false,false],.free]
attribute [go_sem] SH
theorem aJZ(s:Int)(f:Bool)(l:List Ord)(p:ag)(H:ab):aM prog 6 [.int .u8 s,.sl f<|l.map hM,.str p] H (.bool true):=by
 refine OV λk1 k2 k3=>?_
 have hs:0<=s/\s<=255:=GK k1;refine aZ func6 ?_;have HR:=Nq;have lE:IntKind.i64.wrap s=s:=bI;have J:=Dh 0 s;have ax:=Kt f l 100;obtain⟨ki,mS⟩:∃ki,sy l 100=ki:=⟨_,rfl⟩;rw[mS]at ax;obtain⟨X,cS⟩:∃X,jK 0 s=X:=⟨_,rfl⟩;have dY:=λh=>eX.new (r:=0) (s:=s) iV h
 rw[cS]at J dY;obtain⟨d,e⟩:=X;simp only at J dY;by_cases mT:ki=true/\p.length<=1000/\e=0
 ·obtain⟨rfl,ad,rfl⟩:=mT;have dY:=dY rfl;have iZ:=KM mS;have hJ:=(show l.all wb=true/\(l.length:Int)<=100 by unfold sy at mS;simpa using mS).2
  have Mq:decide ((1000:Int)<(p.length:Int))=false:=cQ;obtain⟨D,cc⟩:∃D:Nat->dJ,∀q,D q=zR d (l.take q):=⟨_,λ_=>rfl⟩
  have vt:∀q,eX q 0 (D q):=λq=>by
   have:=dY.Ez (l:=l) (λo aD=>(iZ o aD).1) q
   rw[j9]at this;rw[cc];exact this
  have vu:∀q (h:q<l.length),D (q+1)=(sX (D q) l[q]).1:=λq h=>by rw[cc,cc];exact I9 h
  have aw:D 0=d:=cc 0;rw[<-aw]at J;clear aw dY cS;obtain⟨N,eU⟩:∃N,D l.length=N:=⟨_,rfl⟩;have K:=vt l.length;rw[eU]at K;have uK:=K.fF.do iV (o:=⟨2,oO,0,p⟩)<|by simp only;omega
  have vK:=OJ N uK.w uK.ops uK.n uK.l;have xm:=K.fF.w.tq;obtain⟨ja,kT,aX5,aq⟩:=K.eH;have HS:=aq.mark K.ok;have yL:=aq.w;have Ay:=K.mark;obtain⟨Y,ji⟩:∃Y,mX N=Y:=⟨_,rfl⟩;rw[ji]at vK HS Ay;obtain⟨m,aQA⟩:=Y;simp only at vK HS Ay;rcases HS with⟨aN,rfl⟩|⟨rfl,aOT,aAG,Ig⟩
  ·have jn:decide (aQA=0)=false:=bN aN;have jF:=aH7 m (by have:=Pf K.fF.b.ci;have:=K.fF.b.ci.n;omega) (by have:=K.fF.b.ci.n;omega) (by have:=K.fF.w.lo;omega)
   unfold cR at J vK jF;simp only[en]at J vK jF;repeat' first|(refine ae ?_;simp only[go_sem,lE,Mq])|refine bt ?_|(refine bB ?_ ?_<;>intro h<;>try exact bA h)|fail
   refine cE (ι:=Nat×ab) (λx=>[(1,.sl f<|l.map hM),(2,.str p),(7,.bool true),(8,.ref H.length 0 0),(10,.int .i64 x.1)]) (λx=>H++.cells 0 (cR<|D x.1).cells::x.2) (λx=>x.1<=l.length) (λx=>l.length-x.1) (0,[]) (bW _) ?_ rfl ?_
   ·simp[go_sem]
   rintro⟨q,M⟩ aJ;simp only at aJ ⊢;obtain⟨x,J⟩:∃x,D q=x:=⟨_,rfl⟩;rw[J];obtain⟨G,aW⟩:∃G,H++.cells 0 (cR x).cells::M=G:=⟨_,rfl⟩;rw[aW];have g0:ay G H.length=.cells 0 (cR x).cells:=by rw[<-aW];simp only[go_sem]
   have gs:∀X,ar G H.length X=H++X::M:=λX=>by rw[<-aW];simp only[go_sem]
   have O:=bC g0 trivial;have vq:=gN g0 trivial;unfold cR at g0 O ⊢;simp only[en,I.cells]at g0 O ⊢;by_cases U:q<l.length
   ·have ck:=di hM U;have V:decide ((q:Int)<(l.length:Int))=true:=cK;have yT:=(vt q).fF.do iV (o:=l[q]) (by have:=(iZ _ (ga U)).2;omega)
    have T:=G6 (D q) l[q] yT;obtain⟨y,aH⟩:∃y,D (q+1)=y:=⟨_,rfl⟩;rw[<-vu q U,aH,J]at T;generalize l[q]=o at *;simp only[hM]at ck T;unfold cR at T;simp only[en]at T;repeat' first|((first|refine mx [8] SH ?_|refine ae ?_);simp only[go_sem,ck,V,U,g0,O,gs,vq])|refine bt ?_|(refine bB ?_ ?_<;>intro h<;>try exact bA h)|fail
    exact⟨(q+1,M++[.cells 0 (cR y).cells]),U,by simp only;omega,bU _<|dA U iV,by simp only[aH];unfold cR;simp only[en,I.cells,dr,iN]⟩
   ·have oc:q=l.length:=iV
    subst oc;rw[eU]at J;subst J;have V:decide ((l.length:Int)<(l.length:Int))=false:=cQ;repeat' first|(refine ae ?_;simp only[go_sem,V,g0,O,jn])|refine bt ?_|(refine bB ?_ ?_<;>intro h<;>try exact bA h)|fail
    exact BB aW nb<|.of kk
  ·obtain⟨c1,tX,k,nY⟩:=Ay.rU p;have Sn:=Ay.fF.do iV (o:=⟨2,oO,0,p⟩)<|by simp only;omega
   have py:=Di m Sn.w p Sn.CX Sn.B3;obtain⟨Z,ny⟩:∃Z,lx m p=Z:=⟨_,rfl⟩;rw[ny]at py c1 tX nY;obtain⟨z,TR⟩:=Z;simp only at py c1 tX nY;subst c1;have aPd:=aOT.w;have aD:z.c.ops=N.c.ops:=by
    have hk:=nY.kept;have:k=N.c.ops.length:=iV
    rw[nY.c];simp only;rw[aAG,this,eG]
   have Is:=Kd false false N.c.ops N.c.ops;rw[cD rfl]at Is;have av:m.w.waits=[]:=Ig;have al:m.w.seq=N.w.seq+1:=iV
   have aY:m.w.kept=(N.c.ops.length:Int):=aPd.1;have bu:IntKind.i64.wrap (N.w.seq+1)=N.w.seq+1:=bI;unfold cR at J vK py;simp only[en,aAG,av,al,aY,aD,hj]at J vK py;repeat' first|(refine ae ?_;simp only[go_sem,lE,Mq])|refine bt ?_|(refine bB ?_ ?_<;>intro h<;>try exact bA h)|fail
   refine cE (ι:=Nat×ab) (λx=>[(1,.sl f<|l.map hM),(2,.str p),(7,.bool true),(8,.ref H.length 0 0),(10,.int .i64 x.1)]) (λx=>H++.cells 0 (cR<|D x.1).cells::x.2) (λx=>x.1<=l.length) (λx=>l.length-x.1) (0,[]) (bW _) ?_ rfl ?_
   ·simp[go_sem]
   rintro⟨q,M⟩ aJ;simp only at aJ ⊢;obtain⟨x,J⟩:∃x,D q=x:=⟨_,rfl⟩;rw[J];obtain⟨G,aW⟩:∃G,H++.cells 0 (cR x).cells::M=G:=⟨_,rfl⟩;rw[aW];have g0:ay G H.length=.cells 0 (cR x).cells:=by rw[<-aW];simp only[go_sem]
   have gs:∀X,ar G H.length X=H++X::M:=λX=>by rw[<-aW];simp only[go_sem]
   have O:=bC g0 trivial;have vq:=gN g0 trivial;unfold cR at g0 O ⊢;simp only[en,I.cells]at g0 O ⊢;by_cases U:q<l.length
   ·have ck:=di hM U;have V:decide ((q:Int)<(l.length:Int))=true:=cK;have yT:=(vt q).fF.do iV (o:=l[q]) (by have:=(iZ _ (ga U)).2;omega)
    have T:=G6 (D q) l[q] yT;obtain⟨y,aH⟩:∃y,D (q+1)=y:=⟨_,rfl⟩;rw[<-vu q U,aH,J]at T;generalize l[q]=o at *;simp only[hM]at ck T;unfold cR at T;simp only[en]at T;repeat' first|((first|refine mx [8] SH ?_|refine ae ?_);simp only[go_sem,ck,V,U,g0,O,gs,vq])|refine bt ?_|(refine bB ?_ ?_<;>intro h<;>try exact bA h)|fail
    exact⟨(q+1,M++[.cells 0 (cR y).cells]),U,by simp only;omega,bU _<|dA U iV,by simp only[aH];unfold cR;simp only[en,I.cells,dr,iN]⟩
   ·have oc:q=l.length:=iV
    subst oc;rw[eU]at J;subst J;have V:decide ((l.length:Int)<(l.length:Int))=false:=cQ;repeat' first|(refine ae ?_;simp only[go_sem,V,g0,O,bu])|refine bt ?_|(refine bB ?_ ?_<;>intro h<;>try exact bA h)|fail
    exact BB aW nb<|.of kk
 ·unfold cR at J;simp only[en]at J;repeat' first|(refine ae ?_;simp only[go_sem,lE])|refine bt ?_|(refine bB ?_ ?_<;>intro h<;>try exact bA h)|fail
  ·exact aV<|.of rfl
  ·exfalso;simp at h;exact mT ⟨h.1.1,iV,h.2⟩
open Go.ChangeShapes Go.WideShapes Go.ChangeAt Go.RowKit
theorem aCW(os:Os)(started:os.Started)(H:Type)(enc:TypeId×Value->H):
  ReturnsInHanded {} checked os 6 .any (λw args=>(Rows.daemonAnewSpec.pre enc prog Tryz.f6 Rows.daemonAnewRow.domain false w args/\laidMetH prog Rows.daemonAnewRow.laid w)/\sizedMet enc prog Tryz.f6 (OpenSpec.ofChange Rows.daemonAnewSpec) false w args) (Rows.daemonAnewSpec.post enc prog Tryz.f6 false true false false):=by
 refine returnsInHanded_of_change_and (C:=checked) (X:=λw _=>laidMetH prog Rows.daemonAnewRow.laid w) (λ_ _ _ V h=>h.of_heap V) own started n2 func6
  (ChangeSpec.witness_shaped (enc:=enc) (C:=checked) (os:=os) (X:=λw _=>laidMetH prog Rows.daemonAnewRow.laid w) false (World.laidAll prog os Rows.daemonAnewRow.laid) #[.int .u8 0,.slice none 0 0,.string ⟨#[]⟩] 8 (World.laidAll_os _ _ _)
   (World.shaped_of_ZipB n2 n2) n2 n2 n2
   (by rw[MakeChecks.laidMetH_plain _ _ _ n2];exact laidMet_laidAll _ n2 n2)) ?_
 intro W base args bk gs before Z K Q3 _ I _;have J:∀(j:Nat) t v,Tryz.f6.params[j]?=some t->args[j]?=some v->Value.okWide prog W .any base t v:=Z;have z:=K;obtain⟨p,q,Ca,Am,rfl,EU,jn⟩:=K;have O:DataW.TrodAll enc prog W 0 (λ_=>true) true Tryz.f6.params.toList args.toList bk p:=Ca
 rw[params6]at O J;obtain⟨v0,Ty,d0,Qr,nf,wg,Q1,rfl,rfl,aw,br⟩:=trodAll_cons O;obtain⟨v1,Tz,d1,Qs,cq,aP,rfl,rfl,rfl,h1,a6⟩:=trodAll_cons br;obtain⟨v2,aCx,d2,Zu,cT,aR,rfl,rfl,rfl,h2,a8⟩:=trodAll_cons a6;obtain⟨rfl,rfl,rfl⟩:=trodAll_nil a8;obtain rfl:args= #[v0,v1,v2]:=by cases args;simp_all
 obtain⟨rfl,rfl⟩:=trodVars_none Am;have CR:∀x∈nf,x.block<W.heap.size:=by obtain⟨m,hm⟩:=aw;exact DataW.trod_lt m _ _ _ hm
 obtain⟨wv,kT,df⟩:=uw n2 (J 0 5 v0 rfl rfl) aw
 obtain⟨ja,rfl⟩:=K6 kT;have ey:∀x∈cq,x.block<W.heap.size:=by obtain⟨m,hm⟩:=h1;exact DataW.trod_lt m _ _ _ hm
 obtain⟨fY,s1,cP⟩:=uw n2 (J 1 22 v1 rfl rfl) h1
 obtain⟨ca,rfl,Sg⟩:=No s1;have fq:∀x∈cT,x.block<W.heap.size:=by obtain⟨m,hm⟩:=h2;exact DataW.trod_lt m _ _ _ hm
 obtain⟨dW,s2,dE⟩:=uw n2 (J 2 9 v2 rfl rfl) h2
 obtain⟨bo,rfl⟩:=KL s2;have T:laidMetH prog Rows.daemonAnewRow.laid W:=I;rw[MakeChecks.laidMetH_plain _ _ _ n2]at T
 have hl:Laid (tH W):=K0 (rest:=Rows.daemonAnewRow.laid.tail) T;refine(MZ (aJZ ja false ca bo []) (Nb<|ua df (ua cP (ua dE Nz)))).mono λe DI ⟨he,U⟩=>?_
 subst he;exact⟨_,rfl,_,_,_,[],_,[],z,trodAll_mk1<|shut_bool underlying4 _,(trodAll_cons_mk (Below.trod ux n2 (lT n2) aw U CR) (trodAll_cons_mk (Below.trod ux n2 (lT n2) h1 U ey)<|trodAll_cons_mk (Below.trod ux n2 (lT n2) h2 U fq) trodAll_mk0)),rfl,U.frame _,λh=>by cases h⟩
theorem BF{a b:Bool}(h:a=true)(k:b=true):(a&&b)=true:=by rw[h,k];rfl
theorem aDt:Tryz.pinned.checked.prog.funcNamed Rows.daemonAnewRow.func=some 6:=n2
theorem aDu:joinedFacts Tryz.pinned.checked.prog 6 Tryz.f6 Rows.daemonAnewSpec Rows.daemonAnewRow=true:=by
 unfold joinedFacts;repeat' refine BF ?_ ?_
 all_goals(as_aux_lemma=>kernel_rfl)
theorem aDe:Rows.DaemonAnewSaid:=
 OpenClaim.holds_of_wide 6 Tryz.f6 rfl rfl rfl rfl rfl rfl rfl ⟨rfl,rfl,rfl,rfl,rfl⟩ rfl rfl rfl rfl rfl aDt func6 aDu
  (lT n2) (by unfold Func.isWrapper;first|(rw[aA (by decide+kernel)];kernel_rfl)|(rw[aj (by decide+kernel)];exact⟨rfl,rfl⟩))
  (λos started H enc _=>aCW os started H enc)
theorem goes_no {P : Program} (h : (P.funcs.toList.all fun fn => !fn.goes) = true) (c : OpenClaim) (hs : c.start = .entering) : false = c.goesBy P := by
  have h1 : ∀ fn ∈ P.funcs, fn.goes = false := fun fn hm => by simpa using List.all_eq_true.1 h fn (Array.mem_toList_iff.2 hm)
  have h2 : P.funcs.any Func.goes = false := by
    rw [Array.any_eq_false']
    intro fn hm
    rw [h1 fn hm]
    decide
  have h3 : ∀ f, P.goes f = false := fun f => by
    unfold Program.goes
    rw [h2, Bool.and_false, Bool.or_false]
    rw [List.any_eq_false]
    intro g _
    cases hf : P.funcs[g]? with
    | none => simp
    | some fn => simp [h1 fn (Array.mem_of_getElem? hf)]
  unfold OpenClaim.goesBy Program.goesAt Program.goesFrom
  rw [hs]
  cases P.funcNamed c.func with
  | none => rfl
  | some f => simp [h3 f]
theorem goes_all : (Tryz.pinned.checked.prog.funcs.toList.all fun fn => !fn.goes) = true := by kernel_rfl
theorem provedDaemonAnew:Rows.DaemonAnewCardSaid:=
 Claim7.holds_tied_plain_at .later [] [.data,.data,.pinned] true (true,"31c076e2f65111c219a52b48c19c5d51bf8fd5c0df349b2344d7f754092b6c8c") true aDe (λ_ h=>by cases h) n2 (λ_ h=>by cases h) daemonAnew_row_tie rfl ⟨rfl,rfl⟩ n2 rfl
  (λf fn J U=>by
   obtain rfl:f=6:=qP ((show prog.funcNamed "gunwale/gunwalelaw23.DaemonAnew" =some 6 by kernel_rfl).symm.trans J)|>.symm
   obtain rfl:fn=Tryz.f6:=(qP (func6.symm.trans U)).symm;exact⟨n2,λj t ah=>by
    rw[params6]at ah;have hm:t∈[5,22,9]:=by simpa using F9 ah
    have K:([5,22,9].all λu=> !prog.wantsStandIn u)=true:=n2
    exact(show prog.wantsStandIn t=false by simpa using gm.1 K t hm)⟩)
  (goes_no goes_all _ rfl)
end
end Go.Proofs.YtnmamncmpklliaaGreatDoor

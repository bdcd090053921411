/- What the functions of this seat answer (48 of 53). No condition. -/
import Derived.Test.YtnmamncmpklliaaGreatDoorWorkBU
set_option linter.unusedSimpArgs false
set_option linter.unusedVariables false
set_option maxRecDepth 100000
set_option maxHeartbeats 16000000
namespace Go.Proofs.YtnmamncmpklliaaGreatDoor
variable{n e:Int}{i k b j:Nat}{l:List bz}{t:bz}{u:eZ}{G:ab}{m:c0}{d:cn}{has:Nat->List Int}
open Go.Proofs.Tryz
theorem aJA(n:Nat)(aw:0<n)(af:n<=1048576)(H:ab):dp prog 234 [.sl true [],.int .i64 n] H (λv H'=>v=.osl 7 H.length 1 0 0 n/\∃cs,cs.length=n * 7/\H'=H++[.cells 1 cs]):=by
 refine p3 func234 ?_;have h1:decide ((n:Int)<0)=false:=cQ;have h2:decide ((0:Int)<(n:Int))=true:=cK;have h3:IntKind.i64.wrap ((n:Int)-IntKind.i64.wrap 0)=n:=by rw[show IntKind.i64.wrap 0=0 from rfl,bI];omega
 have h4:(n * 72<=140737488355328)=True:=b5 iV
 have J:((0:Int)<(n:Int))=True:=b5 iV
 have U:IntKind.i64.wrap ((n:Int)-IntKind.i64.wrap (0-0))=n:=h3;repeat' first|(refine ae ?_;simp only[go_sem,h1,h2,h3,h4,J,U,e5,eg,Int.natCast_zero,sH,Int.toNat_zero,List.take_nil])|refine ao ?_|fail
 refine⟨_,?_,rfl⟩;simp[List.flatMap_replicate,I.cells,List.length_flatten]
theorem aJB(H:ab):aM prog 234 [.sl true [],.int .i64 0] H (.sl true []):=by
 refine aZ func234 ?_;have h1:decide ((0:Int)<0)=false:=rfl;have h3:IntKind.i64.wrap ((0:Int)-IntKind.i64.wrap 0)=0:=rfl;have J:IntKind.i64.wrap ((0:Int)-IntKind.i64.wrap (0-0))=0:=rfl;repeat' first|(refine ae ?_;simp only[go_sem,h1,h3,J,e5,eg,Int.natCast_zero])|refine ao ?_|fail
 exact bD<|.refl _
theorem N8(l:List aX):∀e∈l.map bh,e.cells.length=7:=λe he=>by(obtain⟨x, -,rfl⟩:=bJ.1 he;rfl)
theorem OK(l:List aX):((l.map bh).flatMap I.cells).all I.one=true:=by
 induction l with
 |nil=>rfl
 |cons x l J=>rw[dz,nj,List.all_append,J];rfl
theorem KA{n v lc:Nat}{H:ab}{cs:List I}(D:List aX)(af:n<=i)(J:ay H i=.cells v cs)(U:cs=aS bh D)(hk:D.length=k):cL n H (.osl 7 i v 0 k lc) (.sl false<|D.map bh):=
 q3 (es:=D.map bh) (rest:=[]) af J (U.trans (cA _).symm) (by rw[cv,hk]) (λe he=>by(obtain⟨x, -,rfl⟩:=bJ.1 he;rfl)) (λe he=>by(obtain⟨x, -,rfl⟩:=bJ.1 he;simp only[go_sem]))
theorem aF2(f f1 f2:Bool)(J U:List aX)(h2:J.length<=100000)(h3:U.length<=100000)(H:ab):
  aM prog 207 [.sl f [.sl f1 (J.map bh),.sl f2<|U.map bh]] H (.sl false<|(J++U).map bh):=by
 refine aZ func207 ?_;obtain⟨n,af⟩:∃n,J.length+U.length=n:=⟨_,rfl⟩;have fH:IntKind.i64.wrap (0+(J.length:Int))=(J.length:Int):=by rw[bI];omega
 have dI:IntKind.i64.wrap ((J.length:Int)+(U.length:Int))=(n:Int):=by rw[bI];omega
 have uj:decide ((J.length:Int)<0)=false:=cQ;have iz:decide ((n:Int)<0)=false:=cQ;have O:IntKind.i64.wrap (0+1)=1:=rfl;have K:IntKind.i64.wrap (1+1)=2:=rfl;repeat' first|(refine ae ?_;simp only[go_sem])|refine ao ?_|fail
 refine sW 3 ?_;unfold qc;repeat' first|(refine ae ?_;simp only[go_sem,fH,uj,O,dI,iz,K,Int.reduceLT])|refine ao ?_|fail
 have gK:(List.flatMap I.cells (J.map bh)).length=J.length * 7:=ej (enc:=bh) (s:=7) (λ_=>rfl) J
 have iX:(List.flatMap I.cells (U.map bh)).length=U.length * 7:=ej (enc:=bh) (s:=7) (λ_=>rfl) U
 by_cases oX:n=0
 ·have av:J=[]:=iO iV
  have al:U=[]:=iO iV
  subst oX av al;have aL:=aJB;repeat' first|(refine ae ?_;simp only[go_sem,Int.natCast_zero])|refine ao ?_|fail
  refine sW 3 ?_;unfold qc;repeat' first|(refine ae ?_;simp only[go_sem,O,K,Int.reduceLT,hj])|refine ao ?_|fail
  exact⟨_,_,rfl,KA (v:=2) (cs:=[]) [] (bd _) nb rfl rfl,rfl⟩
 refine dU (aJA n iV iV H) aK λv H' aG=>?_
 obtain⟨rfl,cs,V,rfl⟩:=aG;have T:((0:Nat)=n)=False:=x5 iV
 by_cases jO:J=[]
 ·subst jO;have c8:U.length=n:=by simpa using af
  have g1:dq cs 0 (List.flatMap I.cells<|U.map bh)=aS bh U:=by
   have:=I5 (A:=[]) (B:=[]) (X:=List.flatMap I.cells (U.map bh)) (C:=cs)<|by rw[iX,V,c8]
   simpa[aS]using this
  have aP:0<=cs.length:=bW _;simp only[go_sem];repeat' first|(refine ae ?_;simp only[go_sem,T])|refine ao ?_|fail
  refine sW 3 ?_;unfold qc;repeat' first|(refine ae ?_;simp only[go_sem,T,O,K,Int.reduceLT,hj,J5,List.all_nil,g1,V])|refine ao ?_|fail
  refine⟨⟨iV,iV,N8 _,OK _⟩,?_⟩
  repeat' first|(refine ae ?_;simp only[go_sem,K,Int.reduceLT])|refine ao ?_|fail
  refine⟨_,_,rfl,KA (v:=1) (cs:=aS bh U) U (bd _) nb rfl rfl,rfl⟩
 obtain⟨c1,c2,rfl,jY,rZ⟩:∃c1 c2,cs=c1++c2/\c1.length=J.length * 7/\c2.length=U.length * 7:=⟨cs.take<|J.length * 7,cs.drop<|J.length * 7,kk,nX,nX⟩
 simp only[go_sem];repeat' first|(refine ae ?_;simp only[go_sem,T])|refine ao ?_|fail
 refine sW 3 ?_;unfold qc;repeat' first|(refine ae ?_;simp only[go_sem,T,O,K,Int.reduceLT])|refine ao ?_|fail
 have g1:dq (c1++c2) 0 (List.flatMap I.cells<|J.map bh)=aS bh J++c2:=by
  have:=I5 (A:=[]) (B:=c2) (X:=List.flatMap I.cells (J.map bh)) (C:=c1)<|by rw[gK,jY]
  simpa[aS]using this
 rw[g1];rw[bF]at V;refine⟨⟨iV,iV,N8 _,OK _⟩,?_⟩
 have Z:(aS bh J).length=J.length * 7:=gK;by_cases z:U=[]
 ·subst z;have av:(J.length=n)=True:=b5<|by simpa using af
  have al:c2=[]:=iO rZ;subst al;have aY:J.length * 72<=140737488355328:=iV
  repeat' first|(refine ae ?_;simp only[go_sem,av,O,K,Int.reduceLT,cA,hj,J5,eg,rJ,aY,cv,List.all_nil,Z])|refine ao ?_|fail
  refine⟨_,_,rfl,KA (v:=2) (cs:=aS bh J) J (bd _) nb rfl rfl,?_⟩
  first|rfl|rw[cA]
 ·have Bl:0<U.length:=pe.2 z;have av:(J.length=n)=False:=x5 iV
  repeat' first|(refine ae ?_;simp only[go_sem,av,O,K,Int.reduceLT,Z])|refine ao ?_|fail
  have g2:dq (aS bh J++c2) (J.length * 7) (List.flatMap I.cells<|U.map bh)=aS bh (J++U):=by
   have:=I5 (A:=aS bh J) (B:=[]) (X:=List.flatMap I.cells (U.map bh)) (C:=c2)<|by rw[iX,rZ]
   rw[Z]at this;rw[iR];simpa[aS]using this
  rw[g2];refine⟨⟨iV,iV,N8 _,OK _⟩,?_⟩
  repeat' first|(refine ae ?_;simp only[go_sem,K,Int.reduceLT])|refine ao ?_|fail
  exact⟨_,_,rfl,KA (v:=1) (cs:=aS bh<|J++U) (J++U) (bd _) nb rfl (by rw[bF]),rfl⟩
theorem WL(h:l[k]?=some t):List.take 5 (List.drop (k * 18)<|aS aU l)=(c4 t.call).cells:=by
 obtain⟨hk,rfl⟩:=cj.1 h;have:=bU (List.take 5)<|A1 (enc:=aU) (s:=18) (λ_=>rfl) hk
 rw[Dr]at this;exact this
theorem aHv{f:Nat}{y:I}(h:l[k]?=some t)(J:(aU t).cells[f]?=some y):(aS aU l).getD (k * 18+f) .top=y:=by
 unfold aS;rw[et,AO (s:=18) (es:=l.map aU) (k:=k) (j:=f) (e:=aU t) (x:=y) (λe he=>by(obtain⟨x, -,rfl⟩:=bJ.1 he;rfl)) (by rw[mF,h];rfl) J]
 rfl
def S9:List cu:=[.pure 0,.pure 0,.pure 0,.pure 0,.pure 0,.free,.pure 0,.pure 0,.pure 0,.pure 0,.pure 0,.free,.pure 0,.pure 0,.pure 0,.pure 0,.eff [false,false,false,false,false,false,false,false,false,false,false,false,false,false]]
attribute [go_sem] S9
theorem aJC{who:Nat}{x:bK}(K:hn i j who u x G)(z:ay G b=.cells 0 [.ref i 0 0])(hl:x.aC.length<=40)(ah:x.aC[k]?=some t)(ad:t.call.path.length<=1048576):aM prog 235 [.int .i64 k,.ref b 0 0] G (.bool<|BM who k t):=by
 refine aZ func235 ?_;have O:=K.aO;have a8:=K.bo;have hk:=(cj.1 ah).1;have hJ:=ej (enc:=aU) (s:=18) (λ_=>rfl) x.aC
 have T:=WL ah;have lG:=aHv (f:=7) ah rfl;have J:=aLy t.call ad;have gu:((0:Int)<=(k:Int)/\(k:Int)<(x.aC.length:Int))=True:=b5 ⟨iV,iV⟩
 have gl:(k * 18+5<=x.aC.length * 18)=True:=b5 iV
 have Iz:(k * 18+7<x.aC.length * 18)=True:=b5 iV
 have V:(if fQ t.call=false/\hA t.call=true then I.aQ [.sl false ((hB t.call).map I.str),.bool true]else .aQ [.sl true [],.bool false])=.aQ [(if hA t.call=true then .sl false ((hB t.call).map I.str)else .sl true []),.bool<|hA t.call]:=by
  cases hw:hA t.call with
  |true=>rw[aA ⟨VV hw,rfl⟩];rfl
  |false=>rw[aj (λh=>by cases h.2)];rfl
 rw[V]at J;obtain⟨N,Z⟩:∃N,(if hA t.call=true then I.sl false ((hB t.call).map I.str)else .sl true [])=N:=⟨_,rfl⟩
 rw[Z]at J;simp only[e3,c4,I.cells]at O T J;unfold BM;refine hH ?_;have U:decide ((k:Int)=(who:Int))=decide (k=who):=decide_eq_decide.2 iV
 exact bD<|.of (by rw[U])
def hE(who:Nat)(x:bK)(q:Nat):bK:={x with t:=((List.range q).foldl (lR who) (x.t,x.aC)).1,aC:=((List.range q).foldl (lR who) (x.t,x.aC)).2}
theorem aEu{who q:Nat}{x:bK}(h:(hE who x q).aC[q]?=some t):hE who x (q+1)=(if BM who q t=true then{hE who x q with t:=(kH (hE who x q).t q).1,aC:=(kH (hE who x q).t q).2.foldl mf (hv (hE who x q).aC q pR)}else hE who x q):=by
 unfold hE at *;rw[zp,u0];simp only[mG,Bj]at h ⊢;generalize(List.range q).foldl (lR who) (x.t,x.aC)=s at *;unfold lR;rw[et,h,pW];split<;>rfl
def CW(x:bK)(k p:Nat):bK:={x with t:=(kH x.t k).1,aC:=((kH x.t k).2.take p).foldl mf (hv x.aC k pR)}
theorem aJD{who:Nat}{x:bK}(J:hn i j who u x G)(n:Nat)(af:x.aC.length=n)(K:∀q,q<=n->tK (hE who x q)/\(hE who x q).aC.length=n)(ad:∀q t,q<n->(hE who x q).aC[q]?=some t->t.call.path.length<=1048576)
  (gl:∀q p,q<n->∀t∈(CW (hE who x q) q p).aC,sO t) (hd:∀q,q<n->(kH (hE who x q).t q).2.length<=1000000):sP prog 208 [] i j who u (zT who x) G:=by
 refine jw func208 ?_;have V:=J.aO;have Z:=bC J.aO trivial;have a8:=J.bo;have ma:=bC J.bo trivial;have bb:=J.bb;have bf:=J.bf;have dC:=J.dC;have eF:=J.eF;simp only[e3]at V Z dC eF;have bG:=uN J.ey J.fq J.ne;have HH:=(K 0 (bW _)).1.n;repeat' first|((first|refine mx [8] S9 ?_|refine ae ?_);simp only[go_sem,V,Z,a8,bb,bf,dC,eF,ma,bG,bc])|refine ao ?_|fail
 have aPQ:hE who x 0=x:=rfl;rw[af];refine cE (ι:=Nat×ab) (λs=>[(1,.ref G.length 0 0),(2,.func (.func 235) [] [.ref G.length 0 0]),(14,.int .i64 n),(15,.int .i64 s.1)]) (λs=>e2 G i j who u (hE who x s.1)++(.cells 0 [.ref i 0 0]::s.2)) (λs=>s.1<=n) (λs=>n-s.1) (0,[]) (bW _) ?_ (by rw[aPQ,J.own]) ?_
 ·simp[go_sem]
 rintro⟨q,L⟩ aJ;simp only at aJ ⊢;by_cases z:q<n
 ·have bg:decide ((q:Int)<(n:Int))=true:=cK;have hw:IntKind.i64.wrap ((q:Int)+1)=((q+1:Nat):Int):=by rw[wrap_i64 (by have:=K 0<|bW _;have:=this.1.n;have:=(K 0 (bW _)).2;omega) (by have:=(K 0 (bW _)).1.n;have:=(K 0 (bW _)).2;omega)];rfl
  obtain⟨X,cS⟩:∃X,hE who x q=X:=⟨_,rfl⟩;obtain⟨IA,aO5⟩:=K q aJ;have aAR:=ad q;have aBf:=gl q;have HV:=hd q z;rw[cS]at IA aO5 aAR aBf HV;have aXq:=IA.n;have RB:q<X.aC.length:=iV
  have ah:=da RB;obtain⟨t,aA3⟩:∃t,X.aC[q]=t:=⟨_,rfl⟩;rw[aA3]at ah;have Q2:=(J.put X).app (.cells 0 [.ref i 0 0]::L);have O:ay (e2 G i j who u X++(.cells 0 [.ref i 0 0]::L)) G.length=.cells 0 [.ref i 0 0]:=ur<|AW ..;have Az:=aJC Q2 O iV ah<|aAR t z ah
  have T:=aEu (who:=who) (x:=x) (q:=q) (t:=t)<|by rw[cS];exact ah
  rw[cS]at T;rw[cS];refine hH ?_;refine qd (first:=[]) (cap:=[.ref G.length 0 0]) Az aK ?_
  rintro v H' ⟨rfl,rfl⟩;cases gi:BM who q t with
  |false=>
   rw[gi,aj l9]at T
   simp only[go_sem];refine aW ?_;exact⟨(q+1,L),z,by simp only;omega,bU _ hw,by simp only[T]⟩
  |true=>
   rw[gi,aA rfl]at T;obtain⟨U,Z5⟩:∃U,e2 G i j who u X++(.cells 0 [.ref i 0 0]::L)=U:=⟨_,rfl⟩;rw[Z5]at Q2 O ⊢;have l2:=J;have J:=Q2;have V:=J.aO;have Z:=bC J.aO trivial;have a8:=J.bo;have ma:=bC J.bo trivial;have bb:=J.bb;have bf:=J.bf;have dC:=J.dC;have eF:=J.eF;simp only[e3]at V Z dC eF;have bG:=uN J.ey J.fq J.ne;have hJ:=ej (enc:=aU) (s:=18) (λ_=>rfl) X.aC
   have jZ:=aHo false false X.t q IA.held IA.waits;obtain⟨⟨t1,ps⟩,az⟩:∃r,kH X.t q=r:=⟨_,rfl⟩;rw[az]at jZ T HV;have s6:=aJt false false false t<|IA.qH _ (ds ah);have e1:=A1 (enc:=aU) (s:=18) (λ_=>rfl) RB
   rw[aA3]at e1;have ai:=JL (enc:=aU) (s:=18) (λ_=>rfl) RB<|pR t
   simp only[aU,hy,kz,fB,I.cells]at s6 e1 ai jZ;have L8:=bC O trivial;have L9:∀X Y L,ay (ar (ar U j X) i Y++L) G.length=.cells 0 [.ref i 0 0]:=λX Y L=>b3 (bY (bY O (by have:=l2.fq;omega) _) (by have:=l2.ey;omega) _) trivial L
   have aOA:∀Y L,ay (ar U i Y++L) G.length=.cells 0 [.ref i 0 0]:=λY L=>b3 (bY O (by have:=l2.ey;omega) _) trivial L
   have gu:((0:Int)<=(q:Int)/\(q:Int)<(X.aC.length:Int))=True:=b5 ⟨iV,iV⟩
   simp only[go_sem];repeat' first|((first|refine mx [8] S9 ?_|refine ae ?_);simp only[go_sem,V,Z,a8,bb,bf,dC,eF,ma,bG,bc,O,L8,L9,aOA,hJ,e1,ai,gu])|refine ao ?_|fail
   obtain⟨P,jC⟩:∃P:Nat->bK,(λp=>CW X q p)=P:=⟨_,rfl⟩
   have QR:∀p,(P p).aC.length=X.aC.length:=λp=>by
    rw[<-jC];unfold CW;simp only;generalize List.take p (kH X.t q).2=l;have:∀(l:List dx) (k:List bz),(l.foldl mf k).length=k.length:=λl=>by
     induction l with
     |nil=>exact λk=>rfl
     |cons w l aB=>intro k;rw[mG,aB];exact BC _ _ _
    rw[this,BC]
   have aOB:∀Y L,ay (e2 U i j who u Y++L) G.length=.cells 0 [.ref i 0 0]:=λY L=>L9 _ _ L
   have aN3:∀p,p<ps.length->P (p+1)={P p with aC:=mf (P p).aC ps[p]! }:=λp ad=>by
    rw[<-jC];unfold CW;simp only[az];rw[fj ad,u0,getElem!_pos ps p ad];rfl
   refine cE (ι:=Nat×ab) (λs=>[(1,.ref G.length 0 0),(2,.func (.func 235) [] [.ref G.length 0 0]),(14,.int .i64 n),(15,.int .i64 q),(53,.sl false<|ps.map bx),(54,.int .i64 ps.length),(55,.int .i64 s.1)]) (λs=>e2 U i j who u (P s.1)++(.cells 0 [.sl false (t1.held.map bx),.sl false<|t1.waits.map bx]::s.2)) (λs=>s.1<=ps.length) (λs=>ps.length-s.1) (0,[]) (bW _) ?_ ?_ ?_
   ·simp[go_sem]
   ·rw[<-jC];unfold e2 e3 CW;simp only[Du,Bj,az,nK ah,kB]
   rintro⟨p,qS⟩ ad;simp only at ad ⊢;by_cases iY:p<ps.length
   ·have bg:decide ((p:Int)<(ps.length:Int))=true:=cK;have ck:=di bx iY;have Mw:IntKind.i64.wrap ((p:Int)+1)=((p+1:Nat):Int):=dA iY (by simp only at HV;omega)
    obtain⟨gD,lC⟩:∃gD,e2 U i j who u (P p)++(.cells 0 [.sl false (t1.held.map bx),.sl false<|t1.waits.map bx]::qS)=gD:=⟨_,rfl⟩;have vx:=(J.put (P p)).app (.cells 0 [.sl false (t1.held.map bx),.sl false<|t1.waits.map bx]::qS);have Ri:=aOB (P p) (.cells 0 [.sl false (t1.held.map bx),.sl false<|t1.waits.map bx]::qS);rw[lC]at vx Ri ⊢;have aOC:=bC Ri trivial;repeat' first|(refine ae ?_;simp only[go_sem,bg,ck,bx,Ri,aOC])|refine ao ?_|fail
    refine dU (XZ (vx.app _) (by rw[QR];omega) ps[p] (by rw[<-jC];exact aBf p z)) aK ?_
    rintro v H' ⟨rfl,rfl⟩;rw[<-lC,dr,iN,J.next];simp only[go_sem];refine aW ?_;refine⟨(p+1,qS++[.cells 0 [.int .i64 ps[p].lock,.int .i64 ps[p].aU]]),iY,by simp only;omega,bU _ Mw,?_⟩
    rw[aN3 p iY,getElem!_pos ps p iY]
   ·have xh:p=ps.length:=iV
    subst xh;have bg:decide ((ps.length:Int)<(ps.length:Int))=false:=kk
    repeat' first|(refine ae ?_;simp only[go_sem,bg])|refine ao ?_|fail
    have aN2:P ps.length=hE who x (q+1):=by
     rw[T,<-jC];unfold CW;simp only[az,eG]
    refine⟨(q+1,L++(.cells 0 [.sl false (t1.held.map bx),.sl false<|t1.waits.map bx]::qS)),z,by simp only;omega,bU _ hw,?_⟩
    rw[aN2,<-Z5,l2.next,dr];rfl
 ·have oc:q=n:=iV
  subst oc;have bg:decide ((q:Int)<(q:Int))=false:=kk
  refine hH ?_;refine qx J ?_;unfold hE zT;rw[af]
structure TS (who:Nat) (x:bK):Prop where
 z:∀q,q<=x.aC.length->tK (hE who x q)/\(hE who x q).aC.length=x.aC.length
 p:∀q t,q<x.aC.length->(hE who x q).aC[q]?=some t->t.call.path.length<=1048576
 t:∀q p,q<x.aC.length->∀t∈(CW (hE who x q) q p).aC,sO t
 d:∀q,q<x.aC.length->(kH (hE who x q).t q).2.length<=1000000
theorem aKC{who:Nat}{x:bK}(J:hn i j who u x G)(aT:tK x)(hm:fk x.m)(ah:x.aC[who]?=some t)(au:np t.call)(hu:u=⟨3,0⟩)(aD:x.ops.length<=10000)(yF:(er x.m t.call).2.1.names.length<=1048576/\(er x.m t.call).2.1.events.length<=1048576)(T:t.call.kind=13->(er x.m t.call).2.1.err=0->TS who (j1 who x<|er x.m t.call)):sP prog 173 [] i j who u (yt who t.call x) G:=by
 refine jw func173 ?_;subst hu;have br:=J.aO;have a6:=bC J.aO trivial;have a8:=J.bo;have ma:=bC J.bo trivial;have bb:=J.bb;have bf:=J.bf;have dC:=J.dC;have eF:=J.eF;simp only[e3]at br a6 dC eF;have bG:=uN J.ey J.fq J.ne;have hk:=(cj.1 ah).1;have hJ:=ej (enc:=aU) (s:=18) (λ_=>rfl) x.aC
 have Ch:=WL ah;have gr:=aLv false false false false x.m hm t.call au;unfold yt;obtain⟨⟨m,a,o⟩,az⟩:∃r,er x.m t.call=r:=⟨_,rfl⟩;rw[az]at gr yF T ⊢;simp only[ih,oo,c4,Ey,vk,I.cells]at gr Ch;have gu:((0:Int)<=(who:Int)/\(who:Int)<(x.aC.length:Int))=True:=b5 ⟨iV,iV⟩
 have gl:(who * 18+5<=x.aC.length * 18)=True:=b5 iV
 have r4:o.length<=1000:=by
  have h1:=P5 hm t.call;have h2:=(Qj hm t.call).cap;rw[az]at h1 h2;simp only at h1 h2;omega
 have kl:=aF2 true false false x.ops o iV iV
 obtain⟨Z,Fg⟩:∃Z,{t with ec:=a}=Z:=⟨_,rfl⟩;obtain⟨wz,Fh⟩:∃wz,{Z with mark:=x.time}=wz:=⟨_,rfl⟩;obtain⟨U,R1⟩:∃U,{wz with upto:=((x.ops++o).length:Int)}=U:=⟨_,rfl⟩;have rf:x.aC[who]=t:=(cj.1 ah).2;have cq:=AV (enc:=aU) (s:=18) (f:=13) (X:=[.int .i64 a.err,.str a.data,.sl false (a.names.map I.str),.int .i64 a.n,.sl false (a.events.map c9)]) (λ_=>rfl) hk kk Z<|by rw[rf,<-Fg];rfl
 have cT:=AV (enc:=aU) (s:=18) (f:=11) (X:=[.int .i64 x.time]) (D:=x.aC.set who Z) (k:=who) (λ_=>rfl) (by rw[kB];exact hk) kk wz<|by rw[Ga,<-Fh];rfl
 have dP:=AV (enc:=aU) (s:=18) (f:=9) (X:=[.int .i64 ((x.ops++o).length:Int)]) (D:=x.aC.set who wz) (k:=who) (λ_=>rfl) (by rw[kB];exact hk) kk U<|by rw[Ga,<-R1];rfl
 rw[List.set_set]at cT dP;have dd:∀y,(aS aU (x.aC.set who y)).length=x.aC.length * 18:=λy=>by rw[ej (enc:=aU) (s:=18) (λ_=>rfl),kB]
 have Iz:(who * 18+18<=x.aC.length * 18)=True:=b5 iV
 have R2:(who * 18+12<=x.aC.length * 18)=True:=b5 iV
 have aPX:(who * 18+10<=x.aC.length * 18)=True:=b5 iV
 simp only[bF]at dP;repeat' first|((first|refine MG (id:=1) [.free,.pure 3,.pure 3,.pure 3,.pure 3,.free,.pure 3,.pure 3,.pure 3,.pure 3,.free,.free,.free,.free] [.eff [],.eff [],.free] 14 31 62 3 4 uJ rfl n2 n2 n2 n2 ?_|refine ae ?_);simp only[go_sem,br,a6,a8,bb,bf,dC,eF,ma,bG,bc,hJ,Ch,gu,gl,Iz,R2,aPX,dd,cq,cT,dP])|refine ao ?_|fail
 obtain⟨O,V⟩:∃O:bK,O={x with m:=m,ops:=x.ops++o,aC:=x.aC.set who U}:=⟨_,rfl⟩;have ai:e2 G i j who ⟨3,0⟩ O=ar (ar G j<|.cells 1 (aS aU O.aC)) i (.cells 0<|e3 j who ⟨3,0⟩ O):=rfl;obtain⟨L,hp⟩:∃L,[bE.cells 2 [.sl false (m.log.entries.map dv),.sl false<|m.log.nodes.map ba,.int .i64 m.seen,.int .i64 m.rep,.sl false<|m.cN.map gL,.sl false<|m.cd.map dn,.int .i64 m.next],bE.cells 2 [.int .i64 a.err,.str a.data,.sl false<|a.names.map I.str,.int .i64 a.n,.sl false<|a.events.map c9]]=L:=⟨_,rfl⟩;have aXY:=V;rw[V]at ai;simp only[e3,kB]at ai;rw[<-ai,<-V,hp];have nD:=aT.qH _<|ds ah;have aH:U.call=t.call/\U.has=t.has/\U.ec=a:=by rw[<-R1,<-Fh,<-Fg];exact⟨rfl,rfl,rfl⟩
 have It:O.aC[who]?=some U:=by rw[V];exact rH hk
 have jk:=J.put O;refine dU (I7 (jk.app L) (by rw[V];simp only[kB];exact aT.n) It ⟨by rw[aH.1];exact nD.1,by rw[aH.2.1];exact nD.2.1,by rw[aH.2.2];exact yF.1,by rw[aH.2.2];exact yF.2⟩) aK ?_
 rintro v H' ⟨rfl,rfl⟩;rw[J.next];rw[nK It];obtain⟨K,Fe⟩:∃K:bK,K={O with aC:=O.aC.set who (dt U ⟨3,0⟩)}:=⟨_,rfl⟩;rw[<-Fe];have vx:=(J.put K).app L;have RX:K.aC=x.aC.set who (dt U ⟨3,0⟩):=by rw[Fe,V];simp only[List.set_set]
 have c1:=vx.aO;have c2:=vx.bo;have iS:∀k,ay (e2 G i j who ⟨3,0⟩ K++L) (G.length+k)=L.getD k .gone:=λk=>y3<|AW ..
 have oV:(aS aU K.aC).getD (who * 18) .top=.int .i64 t.call.kind:=by
  unfold aS;have:=AO (s:=18) (es:=K.aC.map aU) (k:=who) (j:=0) (e:=aU<|dt U ⟨3,0⟩) (x:=.int .i64 (dt U ⟨3,0⟩).call.kind) (λe he=>by(obtain⟨x, -,rfl⟩:=bJ.1 he;rfl)) (by rw[mF,RX,rH hk];rfl) rfl
  rw[rJ]at this;rw[et,this,<-aH.1];rfl
 have l4:(aS aU K.aC).length=x.aC.length * 18:=by rw[RX];exact dd _
 have AK:K.aC.length=x.aC.length:=by rw[RX,kB]
 have R3:(who * 18<x.aC.length * 18)=True:=b5 iV
 rw[<-hp]at c1 c2 iS ⊢;simp only[e3,AK]at c1;have yJ:j1 who x (m,a,o)=K:=by
  unfold j1;rw[nK ah,Fe,V];simp only[List.set_set];rw[<-R1,<-Fh,<-Fg];rfl
 rw[yJ];simp only[go_sem];by_cases k1:t.call.kind=13
 ·have d1:decide (t.call.kind=13)=true:=cD k1;by_cases k2:a.err=0
  ·have d2:decide (a.err=0)=true:=cD k2;rw[aA ⟨k1,k2⟩];repeat' first|((first|refine MG (id:=1) [.free,.pure 3,.pure 3,.pure 3,.pure 3,.free,.pure 3,.pure 3,.pure 3,.pure 3,.free,.free,.free,.free] [.eff [],.eff [],.free] 14 31 62 3 4 uJ rfl n2 n2 n2 n2 ?_|refine ae ?_);simp only[go_sem,c1,c2,iS,oV,l4,gu,R3,d1,d2])|refine ao ?_|fail
   rw[hp];have T:=T k1 k2;rw[yJ]at T;refine dU (aJD vx _ rfl T.z T.p T.t T.d) aK ?_;rintro v H' ⟨rfl,rfl⟩;rw[J.next];simp only[go_sem];repeat' first|(refine ae ?_;simp only[go_sem])|refine ao ?_|fail
   exact qx J rfl
  ·have d2:decide (a.err=0)=false:=bN k2;rw[aj λh=>k2 h.2]
   repeat' first|((first|refine MG (id:=1) [.free,.pure 3,.pure 3,.pure 3,.pure 3,.free,.pure 3,.pure 3,.pure 3,.pure 3,.free,.free,.free,.free] [.eff [],.eff [],.free] 14 31 62 3 4 uJ rfl n2 n2 n2 n2 ?_|refine ae ?_);simp only[go_sem,c1,c2,iS,oV,l4,gu,R3,d1,d2])|refine ao ?_|fail
   exact qx J rfl
 ·have d1:decide (t.call.kind=13)=false:=bN k1;rw[aj λh=>k1 h.1]
  repeat' first|((first|refine MG (id:=1) [.free,.pure 3,.pure 3,.pure 3,.pure 3,.free,.pure 3,.pure 3,.pure 3,.pure 3,.free,.free,.free,.free] [.eff [],.eff [],.free] 14 31 62 3 4 uJ rfl n2 n2 n2 n2 ?_|refine ae ?_);simp only[go_sem,c1,c2,iS,oV,l4,gu,R3,d1])|refine ao ?_|fail
  exact qx J rfl
structure zs (a:nn):Prop where
 err:a.err<=9223372036854775807
 data:a.data.length<=20000
 nl:a.names.length<=1000
 CU:∀s∈a.names,s.length<=20000
 n:a.n<=9223372036854775807
 el:a.events.length<=1000
 bm:∀e∈a.events,e.kind<=9223372036854775807/\e.path.length<=20000
structure NY (x:eQ):Prop where
 path:x.path.length<=20000
 id:x.id<=9223372036854775807
 data:x.data.length<=20000
theorem aHw(l:List aE)(d:Int):(yh l d).length<=l.length:=by
 unfold yh;split
 ·rw[(Fw _).length_eq,cv];exact Lt l d
 ·exact bW _
theorem aF3(h:fk m){l:List aE}(hl:qv m n=some l):∀x∈l,x.data.length<=64:=by
 unfold qv at hl;split at hl
 ·cases hl;exact λx J=>(h.nodes.de x J).data
 ·obtain⟨s,hs,rfl⟩:=hC.1 hl;exact λx J=>((h.snap s (sC hs)).de x J).data
theorem OL(l:List aE):∀(J:List ag) (i:Int),(iG l i J).2<=1000
 |[],i=>by simp[iG]
 |s::J,i=>by
  unfold iG;split
  ·split
   ·exact OL l J _
   ·decide
  ·decide
theorem aLC(l:List aE)(p:ag):(fi l p).2<=1000:=by
 unfold fi;split
 ·decide
 ·exact OL l _ _
theorem aKD(l:List aE)(p:ag):(iQ l p).2.2<=1000:=by
 unfold iQ
 (repeat' split)<;>first|(show(0:Int)<=1000;decide)|decide|exact OL l _ _
theorem WM(m:c0):(gv m).2<=1000:=by
 unfold gv
 (repeat' split)<;>first|(show(0:Int)<=1000;decide)|decide
theorem aKE(g:fC)(o:aX):nR g o<=1000:=by
 unfold nR
 (repeat' split)<;>decide
def Bn(e:eb):Prop:=e.kind<=9223372036854775807/\e.path.length<=20000
structure yc (m:c0):Prop where
 w:∀w∈m.cd,∀e∈w.bV,Bn e
 n:m.next<=9223372036854775807
structure Gx (m:c0) (d:cn):Prop where
 a:zs d.a
 v:d.m.cd=m.cd/\d.m.next=m.next
 o:∀x∈d.ops,b0 x=true
structure By (m:c0) (r:Int×cn):Prop where
 e:r.1<=1000
 d:r.1=0->Gx m r.2
theorem gY:zs du:=⟨l9,l9,l9,by simp[du],l9,l9,by simp[du]⟩
theorem By.err(h:e<=1000)(aw:e≠0):By m (e,d):=⟨h,λq=>absurd q aw⟩
theorem X0(h:Gx m d)(o:aX):By m (ox d o):=by
 unfold ox;split
 ·rename_i aw;refine⟨by show(0:Int)<=1000;decide,λ_=>⟨h.a,h.v,λx J=>?_⟩⟩
  rcases e4.1 J with J|J
  ·exact h.o x J
  ·rw[dF.1 J];unfold nR at aw;split at aw
   ·cases aw
   ·rename_i h1;simpa using h1
 ·rename_i h;exact .err (aKE _ _) h
theorem aKF(h:Gx m d)(o:aX):By m (sS d o):=by
 unfold sS;have hk:=X0 h {o with at_:=(gv d.m).1}
 split
 ·split
  ·rename_i h;exact⟨by show(0:Int)<=1000;decide,λ_=>⟨(hk.d h).a,(hk.d h).v,(hk.d h).o⟩⟩
  ·exact hk
 ·rename_i h;exact .err (WM _) h
theorem WN{m:c0}:∀(l:List aX) {d:cn},Gx m d->By m (mY d l)
 |[],d,h=>⟨by show(0:Int)<=1000;decide,λ_=>h⟩
 |o::l,d,h=>by
  unfold mY;have hk:=X0 h o;split
  ·rename_i h;exact WN l<|hk.d h
  ·exact hk
structure ye (r:Int×cn):Prop where
 e:r.1<=1000
 a:r.1=0->zs r.2.a
 v:r.1=0->yc r.2.m
 o:r.1=0->∀x∈r.2.ops,b0 x=true
theorem By.r{r:Int×cn}(h:By m r)(v:yc m):ye r:=⟨h.e,λq=>(h.d q).a,λq=>⟨by rw[(h.d q).v.1];exact v.w,by rw[(h.d q).v.2];exact v.n⟩,λq=>(h.d q).o⟩
theorem ye.err(h:e<=1000)(aw:e≠0):ye (e,d):=⟨h,λq=>absurd q aw,λq=>absurd q aw,λq=>absurd q aw⟩
theorem ye.ok(h:zs d.a)(v:yc d.m)(o:∀x∈d.ops,b0 x=true:=by intro x J;cases J):ye (0,d):=⟨by show(0:Int)<=1000;decide,λ_=>h,λ_=>v,λ_=>o⟩
theorem WO(n:Int):IntKind.i64.wrap n<=9223372036854775807:=by
 unfold IntKind.wrap;simp only;split
 ·rename_i h;simp[IntKind.bits,IntKind.signed]at h ⊢;omega
 ·rename_i h;simp[IntKind.bits,IntKind.signed]at h ⊢;omega
theorem aJE{l:List aE}{q:Int}(h:rN q l)(d:Int):(yh l d).length<=1000/\∀s∈yh l d,s.length<=20000:=by
 refine⟨fr (aHw l d)<|fr h.len l9,λs hs=>?_⟩
 unfold yh at hs;split at hs
 ·have hs:=(Fw _).mem_iff.1 hs;obtain⟨p,ad,rfl⟩:=bJ.1 hs;rw[<-(A9 l d).2 p ad];exact fr (h.de _ (Jp l d p ad).1).name l9
 ·cases hs
theorem aFw(h:fk m){l:List aE}(hl:qv m n=some l):rN m.seen l:=by
 unfold qv at hl;split at hl
 ·cases hl;exact h.nodes
 ·obtain⟨s,hs,rfl⟩:=hC.1 hl;exact h.snap s<|sC hs
theorem aJF{l:List oH}(h:∀w∈l,∀e∈w.bV,Bn e):∀w∈wj n l,∀e∈w.bV,Bn e:=by
 induction l with
 |nil=>exact h
 |cons x l J=>
  unfold wj;split
  ·intro w hw;rcases cU.1 hw with rfl|hw
   ·intro e he;cases he
   ·exact h w<|by simp[hw]
  ·intro w hw;rcases cU.1 hw with rfl|hw
   ·exact h w kk
   ·exact J (λv U=>h v<|by simp[U]) w hw
theorem aLD(h:fk m)(v:yc m)(c:b8):ye (js c ⟨m,du,[]⟩):=by
 have d0:Gx m ⟨m,du,[]⟩:=⟨gY,⟨rfl,rfl⟩,λx J=>by cases J⟩
 have ad:=λo=>(aKF d0 o).r v
 have U:=λl p (q:(fi l p).2≠0) (d:cn)=>ye.err (d:=d) (aLC l p) q
 have a2:=λl p (q:(iQ l p).2.2≠0) (d:cn)=>ye.err (d:=d) (aKD l p) q
 have a3:=λm (q:(gv m).2≠0) (d:cn)=>ye.err (d:=d) (WM m) q
 unfold js;split
 ·unfold zW
  (repeat' split)<;>first|exact ad _|exact .err l9 l9|exact a2 _ _ (by assumption) _|exact a3 _ (by assumption) _
 split
 ·unfold zE
  (repeat' split)<;>first|exact ad _|exact .err l9 l9|exact U _ _ (by assumption) _
 split
 ·unfold D4
  (repeat' split)<;>first|exact .err l9 l9|exact U _ _ (by assumption) _|skip
  rename_i l hl _ _;refine .ok ⟨gY.err,?_,gY.nl,gY.CU,gY.n,gY.el,gY.bm⟩ v;simp only;cases O:zB l (fi l c.path).1 with
  |none=>decide
  |some n=>
   unfold zB at O;split at O
   ·exact fr (aF3 h hl n (sC O)) l9
   ·cases O
 split
 ·unfold zP
  (repeat' split)<;>first|exact ad _|exact .err l9 l9|exact U _ _ (by assumption) _|exact a2 _ _ (by assumption) _
 split
 ·unfold Bd
  (repeat' split)<;>first|exact ad _|exact .err l9 l9|exact U _ _ (by assumption) _
 split
 ·unfold Ft
  (repeat' split)<;>first|exact .err l9 l9|exact U _ _ (by assumption) _|skip
  rename_i l hl _ _;obtain⟨V,fh⟩:=aJE (aFw h hl) (fi l c.path).1;exact .ok ⟨gY.err,gY.data,V,fh,gY.n,gY.el,gY.bm⟩ v
 split
 ·unfold D5;split
  ·exact .err l9 l9
  ·exact .ok ⟨gY.err,gY.data,gY.nl,gY.CU,v.n,gY.el,gY.bm⟩ ⟨v.w,WO _⟩
 split
 ·unfold D6;split
  ·exact .err l9 l9
  ·exact .ok gY ⟨λw hw=>v.w w (lV.1 hw).1,v.n⟩
 split
 ·unfold D1
  (repeat' split)<;>first|exact .err l9 l9|exact U _ _ (by assumption) _|skip
  refine .ok ⟨gY.err,gY.data,gY.nl,gY.CU,v.n,gY.el,gY.bm⟩ ⟨λw hw=>?_,WO _⟩
  rcases e4.1 hw with hw|hw
  ·exact v.w w hw
  ·rw[dF.1 hw];intro e he;cases he
 split
 ·unfold D7;split
  ·exact .err l9 l9
  ·rename_i w hw;have hm:=sC hw;exact .ok ⟨gY.err,gY.data,gY.nl,gY.CU,gY.n,fr (h.watch _ hm).2.1 l9,v.w w hm⟩ ⟨aJF v.w,v.n⟩
 split
 ·exact .ok gY v
 ·unfold BH;split
  ·exact .err l9 l9
  split
  ·exact .err l9 l9
  rename_i l Z hl;have hs:=WN (gq m.log [] l) d0;split
  ·rename_i he;have K:=(hs.d he).a;have T:=(hs.r v).v he;exact .ok ⟨K.err,K.data,K.nl,K.CU,by simp only at hl ⊢;omega,K.el,K.bm⟩ ⟨T.w,T.n⟩ (hs.d he).o
  ·exact hs.r v
theorem aKG{l:List aE}(h:cp l=true){n:aE}(af:n∈l):fV n.id=true:=((zd l).1 h).1 n af
theorem WQ{l:List aE}{q:Int}(U:cp l=true)(h:rN q l)(out:List Int):∀(k:Nat) (dir:Int) (p:ag),∀x∈xG l out k dir p,x.path.length<=p.length+81 * k/\x.id<=134217856/\x.data.length<=64
 |0,dir,p,x,J=>by cases J
 |k+1,dir,p,x,J=>by
  unfold xG at J;obtain⟨s,hs,J⟩:=u2.1 J;cases hl:ht s (fz l dir)with
  |none=>rw[hl]at J;cases J
  |some n=>
   rw[hl]at J;have hm:=Wb hl;have af:=Jp l dir _ hm;have hk:=(A9 l dir).2 _ hm;simp only at af hk J;have h1:=(h.de n af.1).name;have h2:=(h.de n af.1).data;have h3:=(Bg.1 (aKG U af.1)).2;rw[hk]at h1;rcases cU.1 J with rfl|J
   ·exact⟨by simp only[bF,cg];omega,by simp only;omega,h2⟩
   ·split at J
    ·have:=WQ U h out k n.id _ x J;simp only[bF,cg]at this;exact⟨iV,this.2⟩
    ·cases J
theorem WR{l:List aE}{q:Int}(h:rN q l)(dir:Int):∀x∈mO l dir,NY x:=λx J=>by
 unfold mO at J;split at J
 ·rename_i U;have:=WQ U h _ _ _ _ x J;have:=h.len;simp only[eg]at *;exact⟨iV,iV,iV⟩
 ·cases J
theorem aWf{l:List aE}{q:Int}(h:rN q l):(mO l 0).length<=1000:=by
 have:=h.len;exact fr (Tv h.l0.wf l9) iV
theorem aKH{a b:List eQ}(U:∀x∈a,NY x)(J:∀x∈b,NY x):∀e∈u7 a b,Bn e:=λe he=>by
 unfold u7 at he;rcases e4.1 he with he|he
 ·rcases e4.1 he with he|he
  ·obtain⟨t,ah,rfl⟩:=bJ.1 he;exact⟨(by decide:(1:Int)<=9223372036854775807),(U t (by simpa using(lV.1 ah).1)).path⟩
  ·obtain⟨t,ah,rfl⟩:=bJ.1 he;exact⟨(by decide:(2:Int)<=9223372036854775807),(J t (lV.1 ah).1).path⟩
 ·obtain⟨t,ah,rfl⟩:=bJ.1 he;exact⟨(by decide:(3:Int)<=9223372036854775807),(J t (lV.1 ah).1).path⟩
theorem aKI{e l:List eb}(he:∀x∈e,Bn x)(hl:∀x∈l,Bn x)(o:Bool):∀x∈(oI e o l).1,Bn x:=λx J=>by
 unfold oI at J;split at J
 ·exact he x J
 ·split at J
  ·rcases e4.1 J with J|J
   ·rcases e4.1 J with J|J
    ·exact he x J
    ·exact hl x<|uZ J
   ·rw[dF.1 J];exact⟨l9,l9⟩
  ·rcases e4.1 J with J|J
   ·exact he x J
   ·exact hl x J
theorem PC(h:e<=1000):zs (ED e):=⟨by show e<=_;omega,gY.data,gY.nl,gY.CU,gY.n,gY.el,gY.bm⟩
theorem P2(h:fk m)(v:yc m)(c:b8):zs (er m c).2.1/\yc (er m c).1/\∀o∈(er m c).2.2,b0 o=true:=by
 unfold er;split
 ·exact⟨PC l9,v,λx J=>by cases J⟩
 rename_i U;have hw:=aLD h v c;split
 ·rename_i aw;split
  ·exact⟨hw.a aw,hw.v aw,λx J=>by cases J⟩
  ·refine⟨hw.a aw,⟨λw hm=>?_,(hw.v aw).n⟩,hw.o aw⟩
   obtain⟨w',K,rfl⟩:=bJ.1 hm;exact aKI ((hw.v aw).w w' K) (aKH (WR h.nodes _)<|WR (PW h (by simpa using U) aw).nodes _) _
 ·exact⟨PC hw.e,v,λx J=>by cases J⟩
theorem aHx(t)(n k):(yl t n k).1.held.length<=t.held.length+1:=by
 unfold yl;split
 ·simp
 ·split
  ·simp
  ·split<;>simp
theorem UT(t)(n k):(fy t n k).1.held.length<=t.held.length:=by
 unfold fy;split
 ·rename_i h;have hm:=by simpa using h
  have h1:=List.length_erase_of_mem hm;have h2:=List.length_pos_of_mem hm;split
  ·simp;omega
  ·simp;omega
 ·exact bd _
theorem Nl(n:Int):∀(l:List dx) (s:fl×List dx),(oP n l s).1.held.length<=s.1.held.length/\(oP n l s).2.length<=s.2.length+l.length
 |[],s=>⟨bd _,bd _⟩
 |h::l,s=>by
  have J:=UT s.1 n h.lock;unfold oP;split
  ·split
   ·obtain⟨h1,h2⟩:=Nl n l ((fy s.1 n h.lock).1,s.2);simp at h1 h2 ⊢;omega
   ·rename_i k hk;obtain⟨h1,h2⟩:=Nl n l ((fy s.1 n h.lock).1,s.2++[⟨h.lock,k⟩]);simp at h1 h2 ⊢;omega
  ·obtain⟨h1,h2⟩:=Nl n l s;simp only[cg];omega
theorem Ot(t)(n):(kH t n).1.held.length<=t.held.length/\(kH t n).2.length<=t.held.length:=by
 obtain⟨h1,h2⟩:=Nl n t.held (⟨t.held,t.waits.filter λw=> !decide (w.aU=n)⟩,[])
 simp at h1 h2;exact⟨h1,h2⟩
theorem M3{α:Type}[DecidableEq α]:∀{l k:List α},l.Nodup->(∀x∈l,x∈k)->l.length<=k.length
 |[],_,_,_=>bW _
 |a::l,k,h,hs=>by
  rw[u1]at h;have U:=hs a kk
  have h1:=M3 (k:=k.erase a) h.2 λx J=>(List.mem_erase_of_ne λe=>h.1 kr).2<|hs x kr
  rw[List.length_erase_of_mem U]at h1;have h2:=List.length_pos_of_mem U;simp;omega
theorem aHy{t:fl}{n:Nat}(h:gV t n has):t.waits.length<=n:=by
 have h1:=M3 (l:=t.waits.map λw=>w.aU.toNat) (k:=List.range n) (by
  unfold List.Nodup;rw[List.pairwise_map];refine h.xU.imp_of_mem fun{a b} U K O e=>O ?_
  obtain⟨i,T, -⟩:=h.sr a U;obtain⟨j,V, -⟩:=h.sr b K;omega) λx J=>by
   obtain⟨w,hw,rfl⟩:=bJ.1 J;obtain⟨i,T,hi, -⟩:=h.sr w hw;exact qO.2 iV
 simpa using h1
theorem WS{t:fl}{n:Nat}(h:gV t n has)(hi:i<n):(has i).length<=t.held.length:=by
 have h1:=M3 (l:=(has i).map λk=>(⟨k,i⟩)) (k:=t.held) (by
  unfold List.Nodup;rw[List.pairwise_map];exact(h.uh i).imp λh e=>h (dx.mk.inj e).1) λx J=>by
   obtain⟨k,hk,rfl⟩:=bJ.1 J;exact(h.qg k i).2 ⟨i,rfl,hi,hk⟩
 simpa using h1
theorem Pf{x:bK}(c:eP x):x.g.waits.length<=40:=by
 have h1:=M3 (l:=x.g.waits.map λw=>w.aU.toNat) (k:=List.range x.aC.length) (by
  unfold List.Nodup;rw[List.pairwise_map];refine c.Ah.imp_of_mem fun{a b} U K O e=>O ?_
  obtain⟨i, -,T, -⟩:=c.oS a U;obtain⟨j, -,V, -⟩:=c.oS b K;omega) λx J=>by
   obtain⟨w,hw,rfl⟩:=bJ.1 J;obtain⟨i,t,T,hi, -⟩:=c.oS w hw;have:=(cj.1 hi).1;exact qO.2 iV
 have:=c.n;simp at h1;omega
def nr(t:bz):Prop:=t.call.path.length<=1048576/\zs t.ec
theorem aHz(t)(u):(dt t u).call=t.call/\(dt t u).ec=t.ec:=by
 unfold dt
 (repeat' split)<;>exact⟨rfl,rfl⟩
theorem FZ(h:nr t)(u):nr (dt t u):=by
 obtain⟨h1,h2⟩:=aHz t u;unfold nr;rw[h1,h2];exact h
theorem aBY(h:nr t)(k:t.has.length<=1048576):sO t:=⟨h.1,k,fr h.2.nl kk,fr h.2.el kk⟩
theorem tf{p:bz->Prop}{f:bz->bz}(h:∀t∈l,p t)(J:∀t∈l,p t->p (f t)):∀t∈hv l n f,p t:=λt ah=>by
 obtain⟨i,hi⟩:=List.mem_iff_getElem?.1 ah;rw[z6]at hi;obtain⟨u,hu,e⟩:=hC.1 hi;have hm:=ds hu;rw[<-e];split
 ·exact J _ hm<|h _ hm
 ·exact h _ hm
theorem YH(h:∀t∈l,nr t)(w):∀t∈mf l w,nr t:=tf h λ_ _ h=>FZ h _
theorem Pg:∀(g:List dx) {l:List bz},(∀t∈l,nr t)->∀t∈g.foldl mf l,nr t
 |[],_,h=>h
 |w::g,_,h=>Pg g<|YH h w
theorem Ph(h:∀t∈l,nr t)(time n):∀t∈my time l n,nr t:=tf h λ_ _ h=>h
theorem WT(time:Int):∀(J:List Int) {l:List bz},(∀t∈l,nr t)->∀t∈J.foldl (my time) l,nr t
 |[],_,h=>h
 |n::J,_,h=>WT time J<|Ph h time n
theorem OM(who:Nat):∀(J:List Nat) (s:fl×List bz),(∀t∈s.2,nr t)->(∀t∈(J.foldl (lR who) s).2,nr t)/\(J.foldl (lR who) s).1.held.length<=s.1.held.length
 |[],_,h=>⟨h,bd _⟩
 |n::J,s,h=>by
  have h1:(∀t∈(lR who s n).2,nr t)/\(lR who s n).1.held.length<=s.1.held.length:=by
   unfold lR;split
   ·exact⟨Pg _<|tf h λ_ _ h=>h,(Ot _ _).1⟩
   ·exact⟨h,bd _⟩
  obtain⟨h2,h3⟩:=OM who J (lR who s n) h1.1;exact⟨h2,fr h3 h1.2⟩
theorem aLE(h:∀t∈l,t.has.length<=b)(w):∀t∈mf l w,t.has.length<=b+1:=tf (λt ah=>fr (h t ah)<|oA _) λt ah _=>by
 rw[(C2 _ _).1,bF];exact Nat.succ_le_succ<|h t ah
theorem X1:∀(g:List dx) {l:List bz} {b:Nat},(∀t∈l,t.has.length<=b)->∀t∈g.foldl mf l,t.has.length<=b+g.length
 |[],_,_,h=>h
 |w::g,_,b,h=>by
  have:=X1 g<|aLE h w;intro t ah;have:=this t ah;simp;omega
theorem YI{x:bK}{q:Nat}(hN:gV x.t x.aC.length (jj x.aC))(af:x.aC.length<=40)(U:x.t.held.length<=q)(aJ:q<=100000)(K:x.g.waits.length<=40)(J:∀t∈x.aC,nr t):tK x:=by
 refine⟨af,λt ah=>aBY (J t ah) ?_,iV,by have:=aHy hN;omega,iV⟩
 obtain⟨i,hi⟩:=List.mem_iff_getElem?.1 ah;have:=WS hN (cj.1 hi).1;rw[pT hi]at this;omega
structure jQ (q:Nat) (x:bK):Prop where
 ci:eP x
 held:x.t.held.length<=q
 q:∀t∈x.aC,nr t
 lh:yc x.m
 op:∀o∈x.ops,b0 o=true
theorem jQ.Qp{q:Nat}{x:bK}(b:jQ q x)(aJ:q<=100000):tK x:=YI b.ci.hN b.ci.n b.held aJ (Pf b.ci) b.q
theorem jQ.tick{q:Nat}{x:bK}(b:jQ q x):jQ q (wk x):=⟨b.ci.tick,b.held,b.q,b.lh,b.op⟩
theorem jQ.up{q r:Nat}{x:bK}(b:jQ q x)(h:q<=r):jQ r x:=⟨b.ci,fr b.held h,b.q,b.lh,b.op⟩
theorem X2{r:Int}{x:bK}(h:k7 r=(x,0)):jQ 0 x:=by
 have hi:=aK2 h;unfold k7 at h;split at h
 ·rename_i aw;cases h;refine⟨hi,bd _,λt ah=>(by cases ah),?_,λt ah=>(by cases ah)⟩
  unfold j2 at aw ⊢;split at aw
  ·rename_i h1;rw[aA h1];exact⟨λw hw=>(by cases hw),(by simp:(1:Int)<=9223372036854775807)⟩
  ·cases aw
 ·rename_i aw;exact absurd (bU Prod.snd h) aw
theorem jQ.start{q:Nat}{x:bK}(b:jQ q x){k:b8}(hk:np k):jQ q (pv x k).1:=by
 refine⟨b.ci.start hk,?_,?_,by unfold pv;split<;>exact b.lh,by unfold pv;split<;>exact b.op⟩
 ·unfold pv;split<;>exact b.held
 ·unfold pv;split
  ·exact b.q
  ·intro t ah;rcases e4.1 ah with h|h
   ·exact b.q t h
   ·rw[dF]at h;subst h;exact⟨hk.path,gY⟩
theorem X3{q:Nat}{x:bK}(b:jQ q x)(who){r:c0×nn×List aX}(J:zs r.2.1):∀t∈(j1 who x r).aC,nr t:=tf b.q λt ah h=>FZ (t:={t with ec:=r.2.1,mark:=x.time,upto:=((x.ops++r.2.2).length)}) ⟨h.1,J⟩ ⟨3,0⟩
structure NW (q:Nat) (y:bK):Prop where
 h:y.t.held.length<=q
 q:∀t∈y.aC,nr t
 v:yc y.m
 o:∀o∈y.ops,b0 o=true
theorem aJG{q:Nat}{x:bK}(b:jQ q x)(full)(who):NW q (mw full who x):=by
 unfold mw;split
 ·exact⟨b.held,Ph (tf (f:=λt=>{t with ec:={du with err:=120}}) b.q λt _ h=>⟨h.1,PC l9⟩) _ _,b.lh,b.op⟩
 ·exact⟨b.held,WT _ _ b.q,b.lh,b.op⟩
theorem aJH{q:Nat}{x:bK}(b:jQ q x)(who)(t)(u):NW (q+1) (nJ who t u x):=by
 have O:=b.held;have aw:x.t.held.length<=q+1:=iV
 unfold nJ;by_cases k1:u.kind=1
 ·rw[aA k1];have:=aHx x.t who u.lock;unfold xW;split
  ·exact⟨by simp only;omega,tf (f:=λt=>dt t ⟨1,u.lock⟩) b.q λt _ h=>FZ h _,b.lh,b.op⟩
  ·exact⟨by simp only;omega,b.q,b.lh,b.op⟩
 rw[aj k1];by_cases k2:u.kind=2
 ·rw[aA k2];have:=UT x.t who u.lock;unfold xX;split
  ·exact⟨by simp only;omega,tf b.q λt _ h=>(FZ h _),b.lh,b.op⟩
  ·exact⟨by simp only;omega,YH (tf b.q λt _ h=>(FZ h _)) _,b.lh,b.op⟩
 rw[aj k2];by_cases k3:u.kind=3
 ·rw[aA k3];obtain⟨d1,d2,d3⟩:=P2 b.ci.hT b.lh t.call;have aJ:=X3 b who d1;have J:=λo J=>(e4.1 J).elim (b.op o)<|d3 o
  unfold yt;split
  ·obtain⟨K,a2⟩:=OM who (List.range (j1 who x<|er x.m t.call).aC.length) ((j1 who x (er x.m t.call)).t,(j1 who x (er x.m t.call)).aC) aJ;exact⟨fr a2 aw,K,d2,J⟩
  ·exact⟨aw,aJ,d2,J⟩
 rw[aj k3];by_cases k4:u.kind=4
 ·rw[aA k4];unfold wY;split
  ·exact⟨aw,Ph b.q _ _,b.lh,b.op⟩
  ·exact⟨aw,b.q,b.lh,b.op⟩
 rw[aj k4];by_cases U:u.kind=5
 ·rw[aA U];exact⟨aw,tf (f:=λt=>{dt t ⟨5,0⟩with end_:=x.time}) b.q λt _ h=>(FZ h ⟨5,0⟩),b.lh,b.op⟩
 ·rw[aj U];exact⟨aw,b.q,b.lh,b.op⟩
theorem jQ.step{q:Nat}{x:bK}(b:jQ q x)(p)(full):jQ (q+1) (ig x p full):=by
 have h:NW (q+1) (ig x p full):=by
  unfold ig;cases uQ x p with
  |none=>exact⟨fr b.held<|oA _,b.q,b.lh,b.op⟩
  |some who=>
   simp;unfold ue;split
   ·have:=aJG b.tick full who;exact⟨fr this.h<|oA _,this.q,this.v,this.o⟩
   ·exact aJH b.tick _ _ _
 exact⟨b.ci.step p full,h.h,h.q,h.v,h.o⟩
theorem jQ.vl{q:Nat}{x:bK}(b:jQ q x)(aJ:q<=100000){who:Nat}(ah:x.aC[who]?=some t):TS who (j1 who x<|er x.m t.call):=by
 have J:=X3 b who (P2 b.ci.hT b.lh t.call).1;obtain⟨K,O,T⟩:=Zc b.ci ah<|er x.m t.call;have V:(j1 who x (er x.m t.call)).t.held.length<=q:=b.held;have hl:(j1 who x (er x.m t.call)).aC.length=x.aC.length:=BC _ _ _;have Z:(j1 who x (er x.m t.call)).g.waits.length<=40:=show x.g.waits.length<=40 from Pf b.ci
 have af:=b.ci.n;generalize j1 who x (er x.m t.call)=y at *;have key:∀k,k<=y.aC.length->tK (hE who y k)/\(hE who y k).aC.length=y.aC.length/\(∀t∈(hE who y k).aC,nr t)/\(hE who y k).t.held.length<=q/\∀t∈(hE who y k).aC,t.has.length<=q:=λk hk=>by
  obtain⟨k1,k2, -, -⟩:=Y5 K O T k hk;obtain⟨U,a2⟩:=OM who (List.range k) (y.t,y.aC) J;have e:(hE who y k).aC.length=y.aC.length:=k1.1;have hN:gV (hE who y k).t (hE who y k).aC.length (jj (hE who y k).aC):=by rw[e];exact k2
  have hd:(hE who y k).t.held.length<=q:=fr a2 V;refine⟨YI hN iV hd aJ Z U,e,U,hd,λt ah=>?_⟩
  obtain⟨i,hi⟩:=List.mem_iff_getElem?.1 ah;have:=WS hN (cj.1 hi).1;rw[pT hi]at this;omega
 refine⟨λk hk=>⟨(key k hk).1,(key k hk).2.1⟩,λk t hk h=>((key k iV).2.2.1 t (ds h)).1,λk p hk t h=>?_,λk hk=>?_⟩
 ·obtain⟨-, -,k3,k4,I⟩:=key k iV
  have hd:=(Ot (hE who y k).t k).2;refine aBY (Pg _ (tf (f:=pR) k3 λ_ _ h=>h) t h) ?_
  have:=X1 (((kH (hE who y k).t k).2.take p)) (tf I λ_ _ _=>bW _) t h
  rw[eK]at this;omega
 ·have hd:=(Ot (hE who y k).t k).2;have:=(key k iV).2.2.2.1
  omega
end Go.Proofs.YtnmamncmpklliaaGreatDoor

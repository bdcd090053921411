/- What the functions of this seat answer (46 of 53). No condition. -/
import Derived.Test.YtnmamncmpklliaaGreatDoorWorkBS
set_option linter.unusedSimpArgs false
set_option linter.unusedVariables false
set_option maxRecDepth 100000
set_option maxHeartbeats 16000000
namespace Go.Proofs.YtnmamncmpklliaaGreatDoor
variable{p aB hK hP jt kx lw i k:Nat}{t:fl}{G H:ab}
open Go.Proofs.Tryz
structure aCO (H:ab) (t:fl) (n:Int) (f1 f2:Bool) (q:Nat) (s:fl×List dx) (G:ab):Prop where
 aJ:q<=t.held.length
 hs:sL (H.length+6) (H.length+4) (H.length+5) 1 1 t.held.length t.waits.length s.1 G
 af:ay G (H.length+1)=.cells 0 [.int .i64 n]
 ah:ay G (H.length+2)=.cells 0 [.sl true [],.sl true []]
 ad:ay G (H.length+7)=.cells (s.2.length+1) (aS bx s.2)
 pre:∀j,j<H.length->ay G j=ay H j
 len:H.length+8<=G.length
 pl:s.2.length<=q
 run:oP n (t.held.drop q) s=kH t n
theorem sL.app(h:sL p aB hK hP jt kx lw t G)(L:ab):sL p aB hK hP jt kx lw t (G++L):=by
 obtain⟨J,U,a2⟩:=h.h1;obtain⟨K,aO,bo⟩:=h.h2;exact⟨b3 h.ad trivial L,⟨J,b3 U trivial L,a2⟩,⟨K,b3 aO trivial L,bo⟩⟩
theorem sL.put(h:sL p aB hK hP jt kx lw t G)(h1:i≠p)(h2:i≠aB)(h3:i≠hK)(b:bE):sL p aB hK hP jt kx lw t (ar G i b):=by
 obtain⟨J,U,a2⟩:=h.h1;obtain⟨K,aO,bo⟩:=h.h2;exact⟨bY h.ad h1 _,⟨J,bY U h2 _,a2⟩,⟨K,bY aO h3 _,bo⟩⟩
theorem FH{M:ab}(h:∀j,j<H.length->ay M j=ay H j)(hl:H.length<=M.length)(L:ab):∀j,j<H.length->ay (M++L) j=ay H j:=λj J=>by
 rw[<-h j J];simp only[ay,et];rw[iP iV]
theorem aHo(f1 f2:Bool)(t:fl)(n:Int)(h1:t.held.length<=1000000)(h2:t.waits.length<=1000000)(H:ab):aM prog 237 [fB f1 f2 t,.int .i64 n] H (.aQ [fB false false (kH t n).1,.sl false<|(kH t n).2.map bx]):=by
 refine aZ func237 ?_;have mR:=On f1 f2 t h1 h2;simp only[fB]at mR;refine bP fB.eq_1 ?_;obtain⟨J,vw⟩:∃J,H++[bE.cells 0 [.sl f1 (t.held.map bx),.sl f2<|t.waits.map bx],bE.cells 0 [.int .i64 n],bE.cells 0 [.sl true [],.sl true []]]=J:=⟨_,rfl⟩;rw[vw];have ko:J.length=H.length+3:=by rw[<-vw];simp
 have a0:ay J H.length=.cells 0 [.sl f1 (t.held.map bx),.sl f2<|t.waits.map bx]:=by rw[<-vw];simp only[go_sem]
 have c3:ay J (H.length+1)=.cells 0 [.int .i64 n]:=by rw[<-vw];simp only[go_sem]
 have a2:ay J (H.length+2)=.cells 0 [.sl true [],.sl true []]:=by rw[<-vw];simp only[go_sem]
 refine dU (mR _) aK ?_;rintro v H' ⟨rfl,rfl⟩;have hs:=Yf f1 f2 t J;have a0:=b3 a0 trivial<|sm J.length f1 f2 t;have c3:=b3 c3 trivial<|sm J.length f1 f2 t;have a2:=b3 a2 trivial<|sm J.length f1 f2 t;have dd:(J++sm J.length f1 f2 t).length=H.length+7:=by rw[bF,ko];rfl
 have vP:∀j,j<H.length->ay (J++sm J.length f1 f2 t) j=ay H j:=λj K=>by rw[<-vw,dr];simp only[ay,et];rw[iP K]
 obtain⟨G,aW⟩:∃G,J++sm J.length f1 f2 t=G:=⟨_,rfl⟩;rw[aW]at hs a0 c3 a2 dd vP ⊢;rw[ko]at hs;obtain⟨aP,⟨a6,aR,aRg,aRh⟩,⟨a8,bH,aRi,aYh⟩⟩:sL (H.length+6) (H.length+4) (H.length+5) 1 1 t.held.length t.waits.length t G:=hs;have pF:a8=[]:=by
  have av:=ej (enc:=bx) (s:=2) (λ_=>rfl) t.waits
  rw[bF,av]at aRi;exact iO iV
 subst pF;rw[cA]at bH;simp only[go_sem];have aO:=bC aP trivial;refine hH ?_;refine dU (aIJ t.waits (λw=>decide<|w.aU=n) (H.length+5) 1 t.waits.length t.waits.length rfl (bd _) iV (λdw=>ay dw (H.length+1)=.cells 0 [.int .i64 n]) (λdw b h=>bY h iV b) (λdw L h=>b3 h trivial L) G bH (fn:=.func 281) (fs:=[]) (cs:=[.ref (H.length+1) 0 0]) (λx dw aL=>.inl ⟨aK,aHn aL x⟩) c3) aK ?_
 rintro v H' ⟨rest,rfl,rfl,pG,xj⟩;have i5:=dk bH trivial;have i6:=dk aP trivial;obtain⟨W,gh⟩:∃W,W=t.waits.filter λw=> !decide (w.aU=n):=⟨_,rfl⟩
 rw[<-gh]at pG ⊢;have LZ:W.length<=t.waits.length:=by rw[gh];exact pd ..
 obtain⟨dh,V⟩:∃dh,ar G (H.length+5) (.cells 1<|aS bx W++rest)=dh:=⟨_,rfl⟩;have cq:ay dh (H.length+6)=.cells 0 [.osl 2 (H.length+4) 1 0 t.held.length t.held.length,.osl 2 (H.length+5) 1 0 t.waits.length t.waits.length]:=by rw[<-V];exact bY aP iV _
 rw[V];have z0:∀X,ay (ar dh (H.length+6) X) H.length=.cells 0 [.sl f1 (t.held.map bx),.sl f2<|t.waits.map bx]:=λX=>by rw[<-V];exact bY (bY a0 iV _) iV _
 simp only[go_sem];repeat' first|(refine ae ?_;simp only[go_sem,cq,z0])|refine ao ?_|fail
 obtain⟨cW,gg⟩:∃cW,ar dh (H.length+6) (.cells 0 [.osl 2 (H.length+4) 1 0 t.held.length t.held.length,.osl 2 (H.length+5) 1 0 W.length t.waits.length])=cW:=⟨_,rfl⟩;have c8:cW.length=H.length+7:=by rw[<-gg,bc,<-V,bc,dd]
 have m1:∀{j b},ay G j=b->j≠H.length+5->j≠H.length+6->ay cW j=b:=λh av al=>by rw[<-gg,<-V];exact bY (bY h iV _) iV _
 have qp:sL (H.length+6) (H.length+4) (H.length+5) 1 1 t.held.length t.waits.length ⟨t.held,W⟩ cW:=by
  refine⟨by rw[<-gg];exact dR (by rw[<-V,bc];exact i6) _,⟨a6,m1 aR iV iV,aRg,aRh⟩,⟨rest,?_,?_,xj⟩⟩
  ·rw[<-gg];refine bY ?_ iV _;rw[<-V];exact dR i5 _
  ·rw[bF,ej (s:=2) λ_=>rfl,pG];simp only;omega
 rw[gg];have fE:=m1 a0 iV iV
 have c1:=m1 c3 iV iV
 have c2:=m1 a2 iV iV
 refine y2 8 2 rfl ?_;rw[c8];refine cE (ι:=Nat×(fl×List dx)×ab) (λs=>[(3,.ref (H.length+1) 0 0),(4,.ref (H.length+2) 0 0),(6,.ref (H.length+6) 0 0),(7,.func (.func 231) [.ref (H.length+6) 0 0] []),(8,.osl 2 (H.length+7) (s.2.1.2.length+1) 0 s.2.1.2.length s.2.1.2.length),(29,.sl f1<|t.held.map bx),(30,.int .i64 t.held.length),(31,.int .i64 s.1)])
  (λs=>s.2.2) (λs=>aCO H t n f1 f2 s.1 s.2.1 s.2.2) (λs=>t.held.length-s.1) (0,(⟨t.held,W⟩,[]),cW++[.cells 1 []]) ?_ ?_ rfl ?_
 ·refine⟨bW _,qp.app _,b3 c1 trivial _,b3 c2 trivial _,?_,FH (λj K=>?_) iV _,?_,bd _,by rw[gh];rfl⟩
  ·rw[<-c8];exact vY _ _
  ·rw[<-vP j K,<-gg,<-V,ho iV,ho iV]
  ·rw[bF,c8];simp
 ·simp[go_sem]
 rintro⟨q,⟨O,ps⟩,M⟩ hd;simp only at hd ⊢;obtain⟨cP,Z,T,I,z,Bc,aCA,aRX,U⟩:=hd;simp only at Z T I z Bc aCA aRX;by_cases ak:q<t.held.length
 ·have bg:decide ((q:Int)<(t.held.length:Int))=true:=cK;have ad:=di bx ak;have hw:=dA ak iV
  rw[ij ak]at U;unfold oP at U;have v3:=bC T trivial;by_cases he:t.held[q].aU=n
  ·rw[aA he]at U;have B4:decide (t.held[q].aU=n)=true:=cD he;have den:(!decide (t.held[q].aU=n))=false:=by rw[B4];rfl
   repeat' first|(refine ae ?_;simp only[go_sem,bg,ad,bx,T,v3,B4,den])|refine ao ?_|fail
   obtain⟨Bs,LY⟩:∃Bs,M++[bE.cells 0 [.int .i64 t.held[q].lock,.int .i64 t.held[q].aU]]=Bs:=⟨_,rfl⟩;have Z:=Z.app [bE.cells 0 [.int .i64 t.held[q].lock,.int .i64 t.held[q].aU]];have T:=b3 T trivial [bE.cells 0 [.int .i64 t.held[q].lock,.int .i64 t.held[q].aU]];have I:=b3 I trivial [bE.cells 0 [.int .i64 t.held[q].lock,.int .i64 t.held[q].aU]];have z:=b3 z trivial [bE.cells 0 [.int .i64 t.held[q].lock,.int .i64 t.held[q].aU]];have Bc:=FH Bc iV [bE.cells 0 [.int .i64 t.held[q].lock,.int .i64 t.held[q].aU]]
   have aCy:ay (M++[bE.cells 0 [.int .i64 t.held[q].lock,.int .i64 t.held[q].aU]]) M.length=.cells 0 [.int .i64 t.held[q].lock,.int .i64 t.held[q].aU]:=vY _ _;have aYr:Bs.length=M.length+1:=by rw[<-LY];simp
   rw[LY]at Z T I z Bc aCy ⊢;refine qd (first:=[.ref (H.length+6) 0 0]) (cap:=[]) (WK Z iV iV iV h1 h2 n t.held[q].lock) aK ?_
   rintro v H' ⟨rfl,gj,pB,pE⟩;unfold G5;have pV:ay H' (H.length+1)=_:=(pE _ iV iV iV).trans T
   have NI:ay H' (H.length+2)=_:=(pE _ iV iV iV).trans I
   have NJ:ay H' (H.length+7)=_:=(pE _ iV iV iV).trans z
   have aCG:∀j,j<H.length->ay H' j=ay H j:=λj K=>(pE _ iV iV iV).trans<|Bc j K
   have aYt:ay H' M.length=_:=(pE _ iV iV iV).trans aCy
   simp only[go_sem];cases ax:(fy O n t.held[q].lock).2 with
   |none=>
    rw[ax]at U;simp only at U;simp only[Dt,Dn];repeat' first|(refine ae ?_;simp only[go_sem])|refine ao ?_|fail
    exact⟨(q+1,((fy O n t.held[q].lock).1,ps),H'),⟨ak,gj,pV,NI,NJ,aCG,by simp only;omega,by simp only;omega,U⟩,by simp only;omega,⟨⟨rfl,bU _ hw⟩,rfl⟩⟩
   |some j=>
    rw[ax]at U;simp only at U;simp only[pW,zn];have dH:=ej (enc:=bx) (s:=2) (λ_=>rfl) ps
    have aYu:=bC NJ trivial;have aYv:=gN NJ trivial;have aN:(ps.length * 16+16<=140737488355328)=True:=b5 iV
    refine hH ?_;refine⟨⟨λe he=>by rw[he];rfl,iV⟩,?_⟩
    repeat' first|(refine ae ?_;simp only[go_sem])|refine ao ?_|fail
    exact⟨(q+1,((fy O n t.held[q].lock).1,ps++[⟨t.held[q].lock,j⟩]),ar H' (H.length+7)<|.cells (ps.length+2) (aS bx (ps++[⟨t.held[q].lock,j⟩]))),
     ⟨ak,gj.put iV iV iV _,bY pV iV _,bY NI iV _,by simp only[bF,cg,eg];exact dR iV _,λj K=>by rw[ho iV,aCG j K],by simp only[bc];omega,by simp only[bF,cg,eg];omega,U⟩,by simp only;omega,⟨⟨by simp only[bF,cg,eg],bU _ hw⟩,by rw[iR];rfl⟩⟩
  ·rw[aj he]at U;have B4:decide (t.held[q].aU=n)=false:=bN he;have den:(!decide (t.held[q].aU=n))=true:=by rw[B4];rfl
   repeat' first|(refine ae ?_;simp only[go_sem,bg,ad,bx,T,v3,B4,den])|refine ao ?_|fail
   exact⟨(q+1,(O,ps),M++[.cells 0 [.int .i64 t.held[q].lock,.int .i64 t.held[q].aU]]),⟨ak,Z.app _,b3 T trivial _,b3 I trivial _,b3 z trivial _,FH Bc iV _,by simp only[bF];omega,by simp only;omega,U⟩,by simp only;omega,⟨⟨rfl,bU _ hw⟩,rfl⟩⟩
 ·have oc:q=t.held.length:=iV
  subst oc;have bg:decide ((t.held.length:Int)<(t.held.length:Int))=false:=kk
  rw[oy]at U;unfold oP at U;obtain⟨aP,⟨a6,aR, -, -⟩,⟨a8,bH, -, -⟩⟩:=Z;have g8:=λv X=>dR (dk I trivial)<|.cells v X
  refine hH ?_;obtain⟨X,cS⟩:∃X,ar M (H.length+2) (bE.cells 0 [.osl 2 (H.length+4) 1 0 O.held.length t.held.length,.osl 2 (H.length+5) 1 0 O.waits.length t.waits.length])=X:=⟨_,rfl⟩;have dW:ay X (H.length+4)=.cells 1 (aS bx O.held++a6):=by rw[<-cS];exact bY aR iV _
  have gy:ay X (H.length+5)=.cells 1 (aS bx O.waits++a8):=by rw[<-cS];exact bY bH iV _
  have Dk:ay X (H.length+7)=.cells (ps.length+1) (aS bx ps++[]):=by rw[<-cS,cA];exact bY z iV _
  obtain⟨L,hp⟩:=NL (H:=H) (H':=X) (by rw[<-cS,bc];omega) λj K=>by rw[<-cS,ho iV,Bc j K]
  rw[cS,<-U];exact⟨L,.aQ [fB false false O,.sl false<|ps.map bx],hp,.aQ _ _ rfl<|dj (.agg _ _ rfl (dj (JR _ iV dW rfl rfl) (dj (JR _ iV gy rfl rfl) fw))) (dj (JR _ iV Dk rfl rfl) fw),rfl⟩
theorem AV{α:Type}{enc:α->I}{s:Nat}(hs:∀x,(enc x).cells.length=s){D:List α}{f:Nat}{X:List I}(h:k<D.length)(J:f+X.length<=s)(y:α)(U:(enc y).cells=dq (enc D[k]).cells f X):dq (aS enc D) (k * s+f) X=aS enc (D.set k y):=by
 have hl:=ej hs<|D.take k;rw[eK,uX iV]at hl
 have e:D=D.take k++(D[k]::D.drop (k+1)):=by rw[<-ij h,pY]
 have al:aS enc D=aS enc (D.take k)++((enc D[k]).cells++aS enc (D.drop<|k+1)):=by rw[<-q1,<-iR,<-e]
 rw[List.set_eq_take_append_cons_drop,aA h,iR,q1,U,al];have K:=hs D[k];have key:∀(A B C:List I),A.length=k * s->f+X.length<=C.length->dq (A++(C++B)) (k * s+f) X=A++(dq C f X++B):=λA B C O T=>by
  unfold dq;rw[<-O,List.take_length_add_append,tC,List.drop_length_add_append,NP iV,Gc T]
  simp only[dr]
 exact key _ _ _ hl<|by rw[K];exact J
theorem V1{n up:Int}:∀{l:List mK} {a:Nat} (J:a<l.length),eT (λw:mK=>decide<|w.aU=n) l=(a:Int)->KE n up l=l.set a ⟨l[a].aU,max l[a].upto up⟩
 |w::l,a,J,h=>by
  unfold eT at h;unfold KE;by_cases e:w.aU=n
  ·rw[aA (by simpa using e)]at h
   have:a=0:=iV
   subst this;rw[aA e];rfl
  ·rw[aj (by simpa using e)]at h
   rw[aj e];have:=Ju (λw:mK=>decide<|w.aU=n) l
   split at h
   ·omega
   ·obtain⟨a,rfl⟩:∃b,a=b+1:=⟨a-1,iV⟩
    rw[V1 (a:=a) (by simpa using J) iV]
    rfl
def S0:List cu:=[.pure 0,.pure 0,.free,.pure 0,.pure 0,.free,.pure 0,.pure 0,.pure 0,.free,.pure 0,.pure 0,.pure 0,.eff [false,true,false,false,false,false,false,false,false,false]]
def S7:List cu:=[.free,.free,.pure 0,.pure 0,.pure 0,.free,.eff [true,false,true],.pure 0,.eff [false,false,false]]
attribute [go_sem] S0 S7
theorem V2:Df prog 167 dy 2:=JM 2 16 func167
theorem V3:tN prog 200 dy 2:=G0 2 func200
theorem aIK:KS prog 200 dy 2:=V3.o
theorem aHp{n:Int}(hi:ay G i=.cells 0 [.int .i64 n])(s:mK):aM prog 239 [dy s,.ref i 0 0] G (.bool<|decide (s.aU=n)):=by
 refine aZ func239 ?_;have J:=bC hi trivial;refine bP dy.eq_1 ?_;exact aV<|.refl _
theorem Kz{n v lc:Nat}{cs r:List I}(D:List mK)(af:n<=i)(J:ay H i=.cells v cs)(U:cs=aS dy D++r)(hk:D.length=k):cL n H (.osl 2 i v 0 k lc) (.sl false<|D.map dy):=
 q3 (es:=D.map dy) (rest:=r) af J U (by rw[cv,hk]) (λe he=>by(obtain⟨x, -,rfl⟩:=bJ.1 he;rfl)) (λe he=>by(obtain⟨x, -,rfl⟩:=bJ.1 he;simp only[go_sem]))
theorem aIL(f:Bool)(g:nU)(n up:Int)(h1:g.waits.length<=1000000)(H:ab):aM prog 209 [kK f g,.int .i64 n,.int .i64 up] H (.aQ [kK false (wx g n up).1,.bool (wx g n up).2]):=by
 refine aZ func209 ?_;have jC:=o9 [(8,S0)];have T:=ej (enc:=dy) (s:=2) (λ_=>rfl) g.waits
 refine bP kK.eq_1 ?_;refine dU (V2 f g.waits iV _) aK ?_
 rintro v H' ⟨rfl,rfl⟩;simp only[go_sem];unfold wx;by_cases hk:up<=g.kept
 ·have V:decide (up<=g.kept)=true:=cD hk;rw[aA hk];refine hH ?_;exact⟨_,.aQ [kK false g,.bool true],rfl,.aQ _ _ rfl<|dj (.agg _ _ rfl (dj (.cl _ (.int _ _)) (dj (Kz (r:=[]) _ iV nb (cA _).symm rfl) fw))) (dj (.cl _ (.bool _)) fw),rfl⟩
 ·have V:decide (up<=g.kept)=false:=bN hk;rw[aj hk];refine hH ?_;refine hY (aIK g.waits (λw=>decide<|w.aU=n) (H.length+3) 1 g.waits.length g.waits.length rfl (bd _) iV _ nb λx=>.inl ⟨aK,aHp nb x⟩) aK ?_
  rcases Ji (λw:mK=>decide<|w.aU=n) g.waits with⟨aP,U⟩|⟨a,J,aP,U⟩
  ·have K:iE g n=false:=by
    unfold iE;rw[List.any_eq_false];exact wF.1 U
   rw[aP];simp only[K,mE,gz,go_sem];have d1:decide ((-1:Int)<0)=true:=rfl;refine hH ?_;refine⟨⟨λe he=>by rw[he];rfl,iV⟩,?_⟩
   refine aW ?_;exact⟨_,.aQ [kK false ⟨g.kept,g.waits++[⟨n,up⟩]⟩,.bool false],rfl,.aQ _ _ rfl<|dj (.agg _ _ rfl (dj (.cl _ (.int _ _)) (dj (Kz (r:=[]) (cs:=aS dy g.waits++[.int .i64 n,.int .i64 up]) (g.waits++[⟨n,up⟩]) iV nb (by rw[iR,cA];rfl) kk) fw))) (dj (.cl _ (.bool _)) fw),rfl⟩
  ·have K:iE g n=true:=List.any_eq_true.2 ⟨_,ga J,by have:=List.find?_some U;exact this⟩
   rw[aP];have d1:decide ((a:Int)<0)=false:=cQ;have Z:=A1 (enc:=dy) (s:=2) (λ_=>rfl) J
   simp only[dy,I.cells]at Z;simp only[K,dG,go_sem];have iA:a * 2+2<=g.waits.length * 2:=iV
   have O:a * 2+1<g.waits.length * 2:=iV
   have ak:decide ((a:Int)<(g.waits.length:Int))=true:=cK;have z:=V1 (up:=up) J aP;clear aP U;have oV:(aS dy g.waits).getD (a * 2+1) .top=.int .i64 g.waits[a].upto:=by
    unfold aS;rw[et,AO (s:=2) (es:=g.waits.map dy) (k:=a) (j:=1) (e:=dy g.waits[a]) (x:=.int .i64 g.waits[a].upto) (λe he=>by(obtain⟨x, -,rfl⟩:=bJ.1 he;rfl)) (by rw[mF,da J];rfl) rfl]
    rfl
   have xi:=AV (enc:=dy) (s:=2) (f:=1) (X:=[.int .i64 (max g.waits[a].upto up)]) (λ_=>rfl) J (bd 2) ⟨g.waits[a].aU,max g.waits[a].upto up⟩ rfl
   have aT:((0:Int)<=(a:Int)/\(a:Int)<(g.waits.length:Int))=True:=b5 ⟨iV,iV⟩
   have O:(a * 2+1<g.waits.length * 2)=True:=b5 O;repeat' first|((first|refine mx [8] S0 ?_|refine ae ?_);simp only[go_sem,d1,T,oV,xi,aT,O])|refine ao ?_|fail
   rw[z];exact⟨_,.aQ [kK false ⟨g.kept,g.waits.set a ⟨g.waits[a].aU,max g.waits[a].upto up⟩⟩,.bool false],rfl,.aQ _ _ rfl<|dj (.agg _ _ rfl (dj (.cl _ (.int _ _)) (dj (Kz (r:=[]) (g.waits.set a ⟨g.waits[a].aU,max g.waits[a].upto up⟩) iV nb (cA _).symm kk) fw))) (dj (.cl _ (.bool _)) fw),rfl⟩
structure DG (i p gb aO:Nat) (k:Int) (A B:List mK) (G:ab):Prop where
 hi:∃w,ay G i=.cells 0 [.int .i64 k,w]
 ad:ay G p=.cells 0 [.osl 2 gb (A.length+1) 0 A.length A.length,.osl 2 aO (B.length+1) 0 B.length B.length]
 aw:ay G gb=.cells (A.length+1) (aS dy A)
 h1:ay G aO=.cells (B.length+1) (aS dy B)
theorem aHq{gb aO:Nat}{k:Int}{A B:List mK}(h:DG i p gb aO k A B G)(d1:p≠gb)(d2:p≠aO)(d3:gb≠aO)(d4:i≠p)(d5:i≠gb)(d6:i≠aO)(Sc:A.length<=1000000)(aQm:B.length<=1000000)(w:mK):
  dp prog 201 [dy w,.ref i 0 0,.ref p 0 0] G (λv H'=>v=.aQ []/\DG i p gb aO k (if w.upto<=k then A else A++[w]) (if w.upto<=k then B++[w]else B) H'/\H'.length=G.length/\∀j,j≠p->j≠gb->j≠aO->ay H' j=ay G j):=by
 refine jw func201 ?_;obtain⟨⟨ws,hi⟩,ad,aw,h1⟩:=h;have ZN:=bC hi trivial;have vp:=bC ad trivial;have g0:=bC aw trivial;have g1:=bC h1 trivial;have sp:=gN ad trivial;have kT:=gN aw trivial;have s1:=gN h1 trivial;have ZC:=ej (enc:=dy) (s:=2) (λ_=>rfl) A
 have HB:=ej (enc:=dy) (s:=2) (λ_=>rfl) B
 have O:=dk ad trivial;have cY:∀b,b≠p->∀X L,ay (ar G b X++L) p=_:=λb aa X L=>b3 (bY ad aa X) trivial L
 have av:∀b X L,ay (ar G b X++L) G.length=L.getD 0 .gone:=λb X L=>ur<|bc _ _ _
 have al:∀b X L Y,ar (ar G b X++L) p Y=ar (ar G b X) p Y++L:=λb X L Y=>hX (by rw[bc];exact O) L Y
 have aY:=cY gb<|ka d1;have bu:=cY aO<|ka d2;have T:=dk aw trivial;have V:=dk h1 trivial;have li:=dk hi trivial;have fin:∀(b:Nat) (X Y:List I) (v:Nat),(∀x∈X,b6 x)->(∀x∈Y,cM G.length x)->∀(j:Nat) (c:bE),(ar (ar G b<|.cells v X) p (.cells 0 Y))[j]?=some c->G[j]?=some c\/ep G.length c:=λb X Y v cS ji j c au=>(pn (H:=ar G b<|.cells v X) (i:=p) (b:=.cells 0 Y) ji j c au).elim (λh=>pn (b:=.cells v X) (λx J=>(cS x J).cl _) j c h) .inr
 have U:∀(l:List mK),∀x∈aS dy l,b6 x:=λl=>y4 (λx=>nb) l
 by_cases hk:w.upto<=k
 ·have Z:decide (w.upto<=k)=true:=cD hk;simp only[aA hk];repeat' first|((first|refine mx [4] S7 ?_|refine ae ?_);simp only[go_sem,dy,ZN,vp,g0,g1,sp,kT,s1,ZC,HB,Z,av,al,aY,bu])|refine ao ?_|fail
  refine⟨⟨λe he=>by rw[he];rfl,iV⟩,iV,iV,?_⟩
  have K:aS dy (B++[w])=aS dy B++[.int .i64 w.aU,.int .i64 w.upto]:=iR ..;refine⟨_,_,.aQ [],rfl,by rw[bc,bc],fin aO _ _ _ (by rw[<-K];exact U _) λx J=>?_,.cl _<|.aQ _ λ_ _ J=>by simp at J,rfl,⟨⟨ws,bY (bY hi (ka d6) _) (ka d4) _⟩,by rw[bF];exact dR (by rw[bc];exact O) _,bY (bY aw (ka d3) _) d1 _,by rw[K,bF];exact bY (dR V _) d2 _⟩,by rw[bc,bc],λj z dW gy=>by rw[ho (ka z),ho<|ka gy]⟩
  simp only[cU,lj,lk]at J;rcases J with rfl|rfl
  ·exact .osl _ _ _ _ _ _ T
  ·exact .osl _ _ _ _ _ _ V
 ·have Z:decide (w.upto<=k)=false:=bN hk;simp only[aj hk];repeat' first|((first|refine mx [4] S7 ?_|refine ae ?_);simp only[go_sem,dy,ZN,vp,g0,g1,sp,kT,s1,ZC,HB,Z,av,al,aY,bu])|refine ao ?_|fail
  refine⟨⟨λe he=>by rw[he];rfl,iV⟩,iV,iV,?_⟩
  have K:aS dy (A++[w])=aS dy A++[.int .i64 w.aU,.int .i64 w.upto]:=iR ..;refine⟨_,_,.aQ [],rfl,by rw[bc,bc],fin gb _ _ _ (by rw[<-K];exact U _) λx J=>?_,.cl _<|.aQ _ λ_ _ J=>by simp at J,rfl,⟨⟨ws,bY (bY hi (ka d5) _) (ka d4) _⟩,by rw[bF];exact dR (by rw[bc];exact O) _,by rw[K,bF];exact bY (dR T _) d1 _,bY (bY h1 d3 _) d2 _⟩,by rw[bc,bc],λj z dW gy=>by rw[ho (ka z),ho<|ka dW]⟩
  simp only[cU,lj,lk]at J;rcases J with rfl|rfl
  ·exact .osl _ _ _ _ _ _ T
  ·exact .osl _ _ _ _ _ _ V
end Go.Proofs.YtnmamncmpklliaaGreatDoor

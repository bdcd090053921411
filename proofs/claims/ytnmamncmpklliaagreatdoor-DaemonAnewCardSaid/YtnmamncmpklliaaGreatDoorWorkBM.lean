/- What the functions of this seat answer (39 of 53). No condition. -/
import Derived.Test.YtnmamncmpklliaaGreatDoorWorkBJ
set_option linter.unusedSimpArgs false
set_option linter.unusedVariables false
set_option maxRecDepth 100000
set_option maxHeartbeats 16000000
namespace Go.Proofs.YtnmamncmpklliaaGreatDoor
variable{F:FuncId}{H G:ab}{bV:List eb}{l:List eQ}
structure kE (F:FuncId) (H:ab) (bV:List eb) (l:List eQ) (G:ab):Prop where
 e:sK H.length bV G
 c:ay G (H.length+2)=.cells 0 [.func (.func F) [] [.ref H.length 0 0]]
 uD:ay G (H.length+4)=.cells 0 [.map (H.length+3)]
 pre:∃M,G=H++M
 m:∃es cl,ay G (H.length+3)=.map es cl/\x9 l es
theorem kE.app{F:FuncId}{H:ab}{bV:List eb}{l:List eQ}{G:ab}(k:kE F H bV l G)(L:ab):kE F H bV l (G++L):=
 ⟨k.e.app L,b3 k.c trivial L,b3 k.uD trivial L,let⟨M,e⟩:=k.pre;⟨M++L,by rw[e,dr]⟩,let⟨es,cl,av,al⟩:=k.m;⟨es,cl,b3 av trivial L,al⟩⟩
theorem kE.set{F:FuncId}{H:ab}{bV:List eb}{l:List eQ}{G:ab}(k:kE F H bV l G){i:Nat}(hi:H.length+4<i)(X:bE):kE F H bV l (ar G i X):=
 ⟨k.e.set iV X,bY k.c iV X,bY k.uD iV X,mZ k.pre iV X,let⟨es,cl,av,al⟩:=k.m;⟨es,cl,bY av iV X,al⟩⟩
theorem kE.S2{J:List eQ}(k:kE F H bV l G){es:List (I×I×Nat)}(he:x9 J es)(cl:Nat):kE F H bV J (ar G (H.length+3)<|.map es cl):=
 ⟨k.e.set iV _,bY k.c iV _,bY k.uD iV _,mZ k.pre iV _,⟨es,cl,dR (by have:=dk k.uD trivial;omega) _,he⟩⟩
theorem kE.bm(k:kE F H bV l G)(es:List eb):kE F H es l (q2 G H.length es):=
 ⟨sK.put k.e.lt es,Lc es k.c iV iV,Lc es k.uD iV iV,by unfold q2;exact mZ (mZ k.pre iV _) (bd _) _,let⟨xs,cl,av,al⟩:=k.m;⟨xs,cl,Lc es av iV iV,al⟩⟩
theorem Lx{i:Nat}(h:i<l.length):(l.map dL).getD i .top=dL l[i]:=by simp[h]
theorem aK5(aO bo:Bool)(ca cy:List aE)(dir:Int)(fH:ln ca)(dI:ln cy)(hd:dm dir=true)(dd:ca.length<=1073741824)(c8:cy.length<=1073741824)(E1:tO ca)(nB:tO cy)(H:ab):
  aM Tryz.prog 279 [.sl aO (ca.map ba),.sl bo<|cy.map ba,.int .i64 dir] H (.sl false<|(u7 (mO ca dir) (mO cy dir)).map c9):=by
 refine aZ Tryz.func279 ?_;have i1:=Yo aO ca dir fH hd dd E1;have i2:=Yo bo cy dir dI hd c8 nB;obtain⟨b1,RW⟩:∃x,x=mO ca dir:=⟨_,rfl⟩;obtain⟨is,Rm⟩:∃x,x=mO cy dir:=⟨_,rfl⟩;have hlen:∀(l:List aE),ln l->l.length<=1073741824->(mO l dir).length<=1073741824:=λl hw hl=>by
  unfold mO;split
  ·rename_i au;exact fr (PJ au hw (zZ l dir) dir [] hd) hl
  ·exact bW _
 have Mi:b1.length<=1073741824:=by rw[RW];exact hlen ca fH dd
 have bg:is.length<=1073741824:=by rw[Rm];exact hlen cy dI c8
 rw[<-RW]at i1 ⊢;rw[<-Rm]at i2 ⊢;clear RW Rm;refine zH (ι:=Unit) (λ_=>[(0,.sl aO<|ca.map ba),(1,.sl bo<|cy.map ba),(2,.int .i64 dir)]) (λ_=>H) (λ_=>True) ?_ λ_ _=>?_
 ·repeat' first|(refine ae ?_;simp only[go_sem])|refine ao ?_|fail
  exact⟨(),trivial⟩
 refine zH (ι:=Unit) (λ_=>[(7,.sl false<|b1.map dL),(8,.sl false<|is.map dL)]) (λ_=>H) (λ_=>True) ?_ λ_ _=>?_
 ·have aW9:=i1;have aXa:=i2;repeat' first|(refine ae ?_;simp only[go_sem])|refine ao ?_|fail
  exact⟨(),trivial⟩
 refine zH (ι:=Unit) (λ_=>[(7,.sl false<|b1.map dL),(8,.sl false<|is.map dL),(9,.ref H.length 0 0)]) (λ_=>H++[.cells 0 [.sl true []]]) (λ_=>True) ?_ λ_ _=>?_
 ·repeat' first|(refine ae ?_;simp only[go_sem])|refine ao ?_|fail
  exact⟨(),trivial⟩
 refine AX H.length 0 2 (by first|(simp only[go_sem];done)|(simp only[go_sem];rfl)) rfl ?_
 simp only[go_sem];repeat' first|(refine ae ?_;simp only[go_sem])|refine ao ?_|fail
 -- what is there now, by its path
 refine qD (ι:=ab) (λ_=>[(7,.sl false<|b1.map dL),(8,.sl false<|is.map dL),(9,.ref H.length 0 0),(10,.ref (H.length+2) 0 0),(11,.ref (H.length+4) 0 0)]) (λG=>G) (λG=>kE 319 H [] is G) ?_ λdh Cc=>?_
 ·refine cE (ι:=Nat×ab) (λs=>[(7,.sl false<|b1.map dL),(8,.sl false<|is.map dL),(9,.ref H.length 0 0),(10,.ref (H.length+2) 0 0),(11,.ref (H.length+4) 0 0),(36,.sl false<|is.map dL),(37,.int .i64 is.length),(38,.int .i64 s.1)]) (λs=>s.2) (λs=>s.1<=is.length/\kE 319 H [] (is.take s.1) s.2) (λs=>is.length-s.1) (0,_) ⟨bW _,?_⟩ ?_ rfl ?_
  ·exact⟨⟨by first|(simp only[go_sem];done)|(simp only[go_sem];rfl),by first|(simp only[go_sem];done)|(simp only[go_sem];rfl)⟩,nb,nb,⟨_,rfl⟩,⟨[],0,nb,aBk⟩⟩
  ·simp[go_sem]
  rintro⟨i,G⟩ ⟨hi,K⟩;simp only at hi K ⊢;by_cases U:i<is.length
  ·obtain⟨es,cl,av,he⟩:=K.m;have bb:=bC av trivial;have bf:=bC K.uD trivial;have fX:=gN av trivial;have k1:iH .string es=True:=b5 he.rk;have I:=Lx U;have As:=aBl he is[i] cl;rw[<-fj U]at As;repeat' first|(refine ae ?_;simp only[go_sem,U,I,dL,k1,bb,bf,fX])|refine ao ?_|fail
   exact⟨(i+1,_),⟨U,(K.S2 As _).app _⟩,by simp only;omega,bU _<|dA U iV,rfl⟩
  ·have eV:i=is.length:=iV
   rw[eV,eG]at K;repeat' first|(refine ae ?_;simp only[go_sem,U])|refine ao ?_|fail
   exact⟨G,K,rfl⟩
 repeat' first|((first|refine cx (aMN _ _) ?_|refine ae ?_);simp only[go_sem])|refine ao ?_|fail
 let E:Nat->List eb:=λk=>((b1.drop k).reverse.filter (ke is)).map λt=>⟨1,t.path⟩
 have EK:∀k,(E k).length<=b1.length:=λk=>by
  have h1:=pd (ke is) (b1.drop k).reverse;simp only[E,cv,List.length_reverse,fT]at h1 ⊢;omega
 have Z3:∀i (h:i<b1.length),E i=E (i+1)++if ke is b1[i]=true then[⟨1,b1[i].path⟩]else[]:=λi h=>by
  simp only[E];rw[ij h,List.reverse_cons,wD,nQ];congr 1;by_cases O:ke is b1[i]=true
  ·simp[O]
  ·simp[O]
 have HK:E b1.length=[]:=by simp[E]
 have ek:H.length+4<dh.length:=dk Cc.uD trivial;refine qD (ι:=ab) (λ_=>[(7,.sl false<|b1.map dL),(8,.sl false<|is.map dL),(9,.ref H.length 0 0),(10,.ref (H.length+2) 0 0),(11,.ref (H.length+4) 0 0)]) (λG=>G) (λG=>kE 319 H (E 0) is G) ?_ λcW rY=>?_
 ·refine G7 [(7,.sl false<|b1.map dL),(8,.sl false<|is.map dL),(9,.ref H.length 0 0),(10,.ref (H.length+2) 0 0),(11,.ref (H.length+4) 0 0),(48,.func (.func 331) [] [.cptr [.sl false (b1.map dL)]])] (by simp[go_sem]) ?_
  refine Jc rfl aK λy dD lD=>?_
  have yE:dD.live:=by rw[lD];trivial
  refine(aMM false b1 y (λk G=>kE 319 H (E k) is G/\ay G dh.length=dD) (λi h G gP=>?_) iV _ ⟨by rw[HK];exact Cc.app _,vY dh _⟩).mono λ_ H' h=>?_
  ·obtain⟨K,HO⟩:=gP;refine JV HO lD rfl rfl rfl rfl λjv fin Cb xf gK iX=>?_
   have f3:=bC HO yE;have g3:=gN HO yE;simp only[wR];refine ud rfl ?_;simp only[go_sem,f3,g3,dL];have aXP:∀X,ar (ar G dh.length X) dh.length dD=G:=λX=>by rw[jS,lr HO yE]
   obtain⟨gD,lC⟩:∃gD,ar G dh.length jv=gD:=⟨_,rfl⟩;have l4:=dk HO yE;have hlen:G.length=gD.length:=by rw[<-lC];simp[ar]
   have nw:kE 319 H (E<|i+1) is gD:=by rw[<-lC];exact K.set ek jv
   have a3:ay gD dh.length=jv:=by rw[<-lC];exact dR l4 jv
   rw[lC,hlen];clear lD Cb iX;obtain⟨es,cl,av,he⟩:=nw.m;have dP:=bC a3 xf;have bb:=bC av trivial;have bf:=bC nw.uD trivial;have rc:=bC nw.c trivial;have k1:iH .string es=True:=b5 he.rk;have hsz:=EK<|i+1;have od:ke is b1[i]=true->∀Y,wi dh.length jv fin gD (λv dw=>v=.bool true/\kE 319 H (E i) is dw/\ay dw dh.length=dD) true none (q2 (gD++Y) H.length<|E (i+1)++[⟨1,b1[i].path⟩]):=λO Y=>by
    rw[aNd nw.e.lt];refine⟨b3 (Lc _ a3 iV iV) xf _,_,Y,rfl,LM _ _ _,ZA _ iV,rfl,?_,?_⟩
    ·rw[Z3 i h,aA O,gK];exact(nw.bm _).set ek _
    ·rw[gK];exact dR (by rw[LM,<-hlen];exact l4) _
   have cH:ke is b1[i]=false->∀Y,wi dh.length jv fin gD (λv dw=>v=.bool true/\kE 319 H (E i) is dw/\ay dw dh.length=dD) true none (gD++Y):=λO Y=>by
    refine⟨dP _,gD,Y,rfl,rfl,λ_ _ h=>.inl h,rfl,?_,?_⟩
    ·rw[Z3 i h,aj (by rw[O];simp),cA,gK]
     exact nw.set ek _
    ·rw[gK];exact dR (by rw[<-hlen];exact l4) _
   cases hk:y0 b1[i].path is with
   |none=>
    have V:=he.no hk;have O:ke is b1[i]=true:=by unfold ke;rw[hk]
    repeat' first|(refine ae ?_;simp only[go_sem,V,k1,bb,bf,rc,dP])|refine ao ?_|fail
    refine qd (Hx 1 b1[i].path (E<|i+1) H.length iV _ (nw.e.app _)) aK ?_
    rintro v H' ⟨rfl,rfl⟩;simp only[go_sem];repeat' first|(refine ae ?_;simp only[go_sem])|refine ao ?_|fail
    exact od O _
   |some x=>
    obtain⟨j,V⟩:=he.yes hk;by_cases J:x.id=b1[i].id
    ·have O:ke is b1[i]=false:=by unfold ke;rw[hk];simp[J]
     repeat' first|(refine ae ?_;simp only[go_sem,V,k1,bb,bf,rc,dP,dL,J])|refine ao ?_|fail
     exact cH O _
    ·have O:ke is b1[i]=true:=by unfold ke;rw[hk];simp[J]
     repeat' first|(refine ae ?_;simp only[go_sem,V,k1,bb,bf,rc,dP,dL,J])|refine ao ?_|fail
     refine qd (Hx 1 b1[i].path (E<|i+1) H.length iV _ (nw.e.app _)) aK ?_
     rintro v H' ⟨rfl,rfl⟩;simp only[go_sem];repeat' first|(refine ae ?_;simp only[go_sem])|refine ao ?_|fail
     exact od O _
  ·refine .inl ⟨.ready,kk,h.2.trans lD,λX=>?_⟩
   exact⟨_,h.1.set iV X,by simp[go_sem],rfl⟩
 obtain⟨m1,m2,m3,m4⟩:=rY.m;have m5:=rY.uD;repeat' first|(refine ae ?_;simp only[go_sem,m3,m5])|refine ao ?_|fail
 have aNM:kE 319 H (E 0) [] (ar cW (H.length+3) (.map [] m2)):=rY.S2 aBk m2;generalize ar cW (H.length+3) (.map [] m2)=G2' at *;clear rY m3 m5 m4
 -- what was there, by its path
 refine qD (ι:=ab) (λ_=>[(7,.sl false<|b1.map dL),(8,.sl false<|is.map dL),(9,.ref H.length 0 0),(10,.ref (H.length+2) 0 0),(11,.ref (H.length+4) 0 0)]) (λG=>G) (λG=>kE 319 H (E 0) b1 G) ?_ λx7 HJ=>?_
 ·refine cE (ι:=Nat×ab) (λs=>[(7,.sl false<|b1.map dL),(8,.sl false<|is.map dL),(9,.ref H.length 0 0),(10,.ref (H.length+2) 0 0),(11,.ref (H.length+4) 0 0),(72,.sl false<|b1.map dL),(73,.int .i64 b1.length),(74,.int .i64 s.1)]) (λs=>s.2) (λs=>s.1<=b1.length/\kE 319 H (E 0) (b1.take s.1) s.2) (λs=>b1.length-s.1) (0,_) ⟨bW _,aNM⟩ ?_ rfl ?_
  ·simp[go_sem]
  rintro⟨i,G⟩ ⟨hi,K⟩;simp only at hi K ⊢;by_cases U:i<b1.length
  ·obtain⟨es,cl,av,he⟩:=K.m;have bb:=bC av trivial;have bf:=bC K.uD trivial;have fX:=gN av trivial;have k1:iH .string es=True:=b5 he.rk;have I:=Lx U;have As:=aBl he b1[i] cl;rw[<-fj U]at As;repeat' first|(refine ae ?_;simp only[go_sem,U,I,dL,k1,bb,bf,fX])|refine ao ?_|fail
   exact⟨(i+1,_),⟨U,(K.S2 As _).app _⟩,by simp only;omega,bU _<|dA U iV,rfl⟩
  ·have eV:i=b1.length:=iV
   rw[eV,eG]at K;repeat' first|(refine ae ?_;simp only[go_sem,U])|refine ao ?_|fail
   exact⟨G,K,rfl⟩
 repeat' first|(refine ae ?_;simp only[go_sem])|refine ao ?_|fail
 -- what came
 let T:Nat->List eb:=λk=>E 0++((is.take k).filter (ke b1)).map λt=>⟨2,t.path⟩
 have Z1:∀k,(T k).length<=b1.length+is.length:=λk=>by
  have h1:=pd (ke b1)<|is.take k;have h2:=EK 0;simp only[T,bF,cv,eK]at h1 ⊢;omega
 have aNQ:∀i (h:i<is.length),T (i+1)=T i++if ke b1 is[i]=true then[⟨2,is[i].path⟩]else[]:=λi h=>by
  simp only[T];rw[fj h,wD,nQ,dr];congr 2;by_cases O:ke b1 is[i]=true
  ·simp[O]
  ·simp[O]
 have aNP:T 0=E 0:=by simp[T]
 refine qD (ι:=ab) (λ_=>[(7,.sl false<|b1.map dL),(8,.sl false<|is.map dL),(9,.ref H.length 0 0),(10,.ref (H.length+2) 0 0),(11,.ref (H.length+4) 0 0)]) (λG=>G) (λG=>kE 319 H (T is.length) b1 G) ?_ λzw aNN=>?_
 ·refine cE (ι:=Nat×ab) (λs=>[(7,.sl false<|b1.map dL),(8,.sl false<|is.map dL),(9,.ref H.length 0 0),(10,.ref (H.length+2) 0 0),(11,.ref (H.length+4) 0 0),(83,.sl false<|is.map dL),(84,.int .i64 is.length),(85,.int .i64 s.1)]) (λs=>s.2) (λs=>s.1<=is.length/\kE 319 H (T s.1) b1 s.2) (λs=>is.length-s.1) (0,_) ⟨bW _,by rw[aNP];exact HJ⟩ ?_ rfl ?_
  ·simp[go_sem]
  rintro⟨i,G⟩ ⟨hi,K⟩;simp only at hi K ⊢;by_cases U:i<is.length
  ·obtain⟨es,cl,av,he⟩:=K.m;have bb:=bC av trivial;have bf:=bC K.uD trivial;have rc:=bC K.c trivial;have k1:iH .string es=True:=b5 he.rk;have I:=Lx U;have hsz:=Z1 i;have Z:=aNQ i U;have r3:is.length-(i+1)<is.length-i:=iV
   cases hk:y0 is[i].path b1 with
   |none=>
    have V:=he.no hk;have O:ke b1 is[i]=true:=by unfold ke;rw[hk]
    rw[aA O]at Z;repeat' first|(refine ae ?_;simp only[go_sem,U,I,V,k1,bb,bf,rc,dL])|refine ao ?_|fail
    refine qd (Hx 2 is[i].path (T i) H.length iV _ (K.e.app _)) aK ?_
    rintro v H' ⟨rfl,rfl⟩;simp only[go_sem];repeat' first|(refine ae ?_;simp only[go_sem])|refine ao ?_|fail
    exact⟨(i+1,_),⟨U,by rw[Z];exact(K.app _).bm _⟩,r3,bU _<|dA U iV,rfl⟩
   |some x=>
    obtain⟨j,V⟩:=he.yes hk;by_cases J:x.id=is[i].id
    ·have O:ke b1 is[i]=false:=by unfold ke;rw[hk];simp[J]
     rw[aj (by rw[O];simp),cA]at Z
     repeat' first|(refine ae ?_;simp only[go_sem,U,I,V,k1,bb,bf,rc,dL,J])|refine ao ?_|fail
     exact⟨(i+1,_),⟨U,by rw[Z];exact K.app _⟩,r3,bU _<|dA U iV,rfl⟩
    ·have O:ke b1 is[i]=true:=by unfold ke;rw[hk];simp[J]
     rw[aA O]at Z;repeat' first|(refine ae ?_;simp only[go_sem,U,I,V,k1,bb,bf,rc,dL,J])|refine ao ?_|fail
     refine qd (Hx 2 is[i].path (T i) H.length iV _ (K.e.app _)) aK ?_
     rintro v H' ⟨rfl,rfl⟩;simp only[go_sem];repeat' first|(refine ae ?_;simp only[go_sem])|refine ao ?_|fail
     exact⟨(i+1,_),⟨U,by rw[Z];exact(K.app _).bm _⟩,r3,bU _<|dA U iV,rfl⟩
  ·have eV:i=is.length:=iV
   rw[eV]at K;repeat' first|(refine ae ?_;simp only[go_sem,U])|refine ao ?_|fail
   exact⟨G,K,rfl⟩
 repeat' first|(refine ae ?_;simp only[go_sem])|refine ao ?_|fail
 -- what was written
 let tL:Nat->List eb:=λk=>T is.length++((is.take k).filter (ph b1)).map λt=>⟨3,t.path⟩
 have aNS:∀k,(tL k).length<=b1.length+2 * is.length:=λk=>by
  have h1:=pd (ph b1)<|is.take k;have h2:=Z1 is.length;have h3:(tL k).length=(T is.length).length+((is.take k).filter (ph b1)).length:=by simp only[tL,bF,cv]
  rw[eK]at h1;omega
 have aNT:∀i (h:i<is.length),tL (i+1)=tL i++if ph b1 is[i]=true then[⟨3,is[i].path⟩]else[]:=λi h=>by
  show T is.length++(((is.take (i+1)).filter (ph b1)).map λt=>(⟨3,t.path⟩:eb))=(T is.length++((is.take i).filter (ph b1)).map λt=>(⟨3,t.path⟩:eb))++_
  generalize T is.length=z;rw[fj h,wD,nQ,<-dr];congr 1;by_cases O:ph b1 is[i]=true
  ·simp[O]
  ·simp[O]
 have aNR:tL 0=T is.length:=by simp[tL]
 refine qD (ι:=ab) (λ_=>[(7,.sl false<|b1.map dL),(8,.sl false<|is.map dL),(9,.ref H.length 0 0),(10,.ref (H.length+2) 0 0),(11,.ref (H.length+4) 0 0)]) (λG=>G) (λG=>kE 319 H (tL is.length) b1 G) ?_ λu3 QK=>?_
 ·refine cE (ι:=Nat×ab) (λs=>[(7,.sl false<|b1.map dL),(8,.sl false<|is.map dL),(9,.ref H.length 0 0),(10,.ref (H.length+2) 0 0),(11,.ref (H.length+4) 0 0),(110,.sl false<|is.map dL),(111,.int .i64 is.length),(112,.int .i64 s.1)]) (λs=>s.2) (λs=>s.1<=is.length/\kE 319 H (tL s.1) b1 s.2) (λs=>is.length-s.1) (0,_) ⟨bW _,by rw[aNR];exact aNN⟩ ?_ rfl ?_
  ·simp[go_sem]
  rintro⟨i,G⟩ ⟨hi,K⟩;simp only at hi K ⊢;by_cases U:i<is.length
  ·obtain⟨es,cl,av,he⟩:=K.m;have bb:=bC av trivial;have bf:=bC K.uD trivial;have rc:=bC K.c trivial;have k1:iH .string es=True:=b5 he.rk;have I:=Lx U;have hsz:=aNS i;have Z:=aNT i U;have r3:is.length-(i+1)<is.length-i:=iV
   cases hk:y0 is[i].path b1 with
   |none=>
    have V:=he.no hk;have O:ph b1 is[i]=false:=by unfold ph;rw[hk]
    rw[aj (by rw[O];simp),cA]at Z
    repeat' first|(refine ae ?_;simp only[go_sem,U,I,V,k1,bb,bf,rc,dL])|refine ao ?_|fail
    exact⟨(i+1,_),⟨U,by rw[Z];exact K.app _⟩,r3,bU _<|dA U iV,rfl⟩
   |some x=>
    obtain⟨j,V⟩:=he.yes hk;by_cases J:x.id=is[i].id
    ·by_cases aH:x.data=is[i].data
     ·have O:ph b1 is[i]=false:=by unfold ph;rw[hk];simp[J,aH]
      rw[aj (by rw[O];simp),cA]at Z
      repeat' first|(refine ae ?_;simp only[go_sem,U,I,V,k1,bb,bf,rc,dL,J,aH])|refine ao ?_|fail
      exact⟨(i+1,_),⟨U,by rw[Z];exact K.app _⟩,r3,bU _<|dA U iV,rfl⟩
     ·have O:ph b1 is[i]=true:=by unfold ph;rw[hk];simp[J,aH]
      rw[aA O]at Z;repeat' first|(refine ae ?_;simp only[go_sem,U,I,V,k1,bb,bf,rc,dL,J,aH])|refine ao ?_|fail
      refine qd (Hx 3 is[i].path (tL i) H.length iV _ (K.e.app _)) aK ?_
      rintro v H' ⟨rfl,rfl⟩;simp only[go_sem];repeat' first|(refine ae ?_;simp only[go_sem])|refine ao ?_|fail
      exact⟨(i+1,_),⟨U,by rw[Z];exact(K.app _).bm _⟩,r3,bU _<|dA U iV,rfl⟩
    ·have O:ph b1 is[i]=false:=by unfold ph;rw[hk];simp[J]
     rw[aj (by rw[O];simp),cA]at Z
     repeat' first|(refine ae ?_;simp only[go_sem,U,I,V,k1,bb,bf,rc,dL,J])|refine ao ?_|fail
     exact⟨(i+1,_),⟨U,by rw[Z];exact K.app _⟩,r3,bU _<|dA U iV,rfl⟩
  ·have eV:i=is.length:=iV
   rw[eV]at K;repeat' first|(refine ae ?_;simp only[go_sem,U])|refine ao ?_|fail
   exact⟨G,K,rfl⟩
 have gb:=QK.e.gb;have aO:=QK.e.aO;repeat' first|(refine ae ?_;simp only[go_sem,gb])|refine ao ?_|fail
 obtain⟨L,hp⟩:=QK.pre;have yJ:tL is.length=u7 b1 is:=by
  simp only[tL,T,E,eG,x4];rfl
 rw[hp]at aO ⊢;rw[yJ]at aO ⊢;exact uH (cs:=jA<|u7 b1 is) (es:=(u7 b1 is).map c9) (rest:=[]) iV aO (by rw[cA];rfl) kk (λe he=>by obtain⟨x,_,rfl⟩:=bJ.1 he;rfl) (λe he=>by obtain⟨x,_,rfl⟩:=bJ.1 he;exact nb) rfl
end Go.Proofs.YtnmamncmpklliaaGreatDoor

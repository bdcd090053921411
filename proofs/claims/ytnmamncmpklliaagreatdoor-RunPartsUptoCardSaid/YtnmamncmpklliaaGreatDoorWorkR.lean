/- What functions answer. No condition. -/
import Derived.Test.YtnmamncmpklliaaGreatDoorWorkQ
set_option linter.unusedSimpArgs false
set_option linter.unusedVariables false
set_option maxRecDepth 100000
set_option maxHeartbeats 16000000
namespace Go.Proofs.YtnmamncmpklliaaGreatDoor
variable{F:FuncId}{H G:ab}{b2:List e7}{l:List eS}{i j k:Nat}{α:Type}{c:cg}{d:cB}{m:di}
open Go.Proofs.Tryz
theorem Iz(kind:Int)(path:al)(b2:List e7)(u:Nat)(hl:b2.length<=4294967296)(G:ab)(U:sK u b2 G):
  cV prog 319 [.int .i64 kind,.str path,.ref u 0 0] G (λv K=>v=.aN []/\K=rT G u (b2++[⟨kind,path⟩])):=by
 refine uf func319 ?_;have fL:=U.fL;have aW:=U.aW;have O:=U.lt;have S:∀c,az (an G (u+1) c) u=_:=λc=>bN fL gf c;have T:(jZ b2).length=b2.length * 2:=QT _;have V:(∀e,e=I.agg [.int .i64 kind,.str path]->e.cells.length=2)=True:=b1 λe he=>by rw[he];rfl
 have Z:((b2.length+1) * 24<=140737488355328)=True:=b1 gf;have z:du [I.osl 2 (u+1) (b2.length+1) 0 b2.length b2.length] 0 [.osl 2 (u+1) (b2.length+2) 0 (b2.length+1) (b2.length+1)]=[.osl 2 (u+1) (b2.length+2) 0 (b2.length+1) (b2.length+1)]:=rfl;have nw:an (an G (u+1)<|.cells (b2.length+2) (jZ b2++[.int .i64 kind,.str path])) u (.cells 0 [.osl 2 (u+1) (b2.length+2) 0 (b2.length+1) (b2.length+1)])=rT G u (b2++[⟨kind,path⟩]):=by unfold rT;rw[aMJ,bw];rfl
 repeat' first|(refine ae ?_;simp only[go_sem,fL,aW,S,T,V,Z,z])|refine ai ?_|fail
 rw[nw];exact⟨_,[],.aN [],(cE _).symm,by rw[L5];exact bh _,by rw[L5];exact ZR _ O,.cl _<|.aN _ λ_ _ J=>by simp at J,rfl,rfl⟩
theorem aJZ(l:List eS):∀e∈l.map dM,b9 e:=λe he=>by obtain⟨x,_,rfl⟩:=bP.1 he;exact mZ
theorem aKO(k:Nat)(b:Bool)(l:List eS):cN k (.sl b<|l.map dM):=(b9.sl b _ (aJZ l)).cl k
theorem aML(b:Bool)(l:List eS)(H:ab):aO prog 320 [.sl b (l.map dM)] H (.func (.func 331) [] [.cptr [.sl b (l.map dM)]]):=by
 refine bg func320 ?_;refine a7 ?_;refine⟨_,_,rfl,?_,rfl⟩;refine .func _ _ _ _ _ rfl rfl fx<|ds (DE (bh _) mZ ?_) fx
 simp only[dH,zM];exact aKO _ _ _
theorem aMk(b:Bool)(l:List eS)(y:Nat)(J:Nat->ab->Prop)(O:∀i (h:i<l.length) G,J (i+1) G->sJ prog y [.int .i64 i,dM l[i]] G (λv U=>v=.bool true/\J i U))(hl:l.length<=4294967296)(H:ab)(ay:J l.length H):
  cV prog 331 [.func (.yield y) [] [],.cptr [.sl b (l.map dM)]] H (λ_ G=>J 0 G):=by
 refine mS func331 ?_;have hw:IntKind.i64.wrap ((l.length:Int)-1)=(l.length:Int)-1:=bS;refine hH ?_;refine c7 (ι:=Int×ab) (λs=>[(0,.func (.yield y) [] []),(1,.cptr [.sl b (l.map dM)]),(3,.int .i64 s.1)]) (λs=>s.2) (λs=>∃k:Nat,s.1=(k:Int)-1/\k<=l.length/\J k s.2) (λs=>(s.1+1).toNat) ((l.length:Int)-1,H) ⟨l.length,rfl,bh _,ay⟩ ?_ rfl ?_
 ·simp[go_sem]
 rintro⟨v,G⟩ ⟨k,S,hk,hj⟩;simp only at S hk hj ⊢;cases k with
 |zero=>
  have K:v= -1:=gf;subst K;repeat' first|(refine ae ?_;simp only[go_sem])|refine ai ?_|fail
  exact hj
 |succ i=>
  have K:v=(i:Int):=gf;subst K;have T:(l.map dM).getD i .top=dM l[i]:=by simp[show i<l.length from hk]
  have V:decide (0<=(i:Int))=true:=cS;have Z:IntKind.i64.wrap ((i:Int)-1)=(i:Int)-1:=bS;have I:=O i hk G hj;repeat' first|(refine ae ?_;simp only[go_sem,T,V,dM,hk])|refine ai ?_|fail
  refine NQ I ?_;rintro v U ⟨rfl,z⟩;simp only[go_sem];repeat' first|(refine ae ?_;simp only[go_sem,Z])|refine ai ?_|fail
  exact⟨((i:Int)-1,U),⟨i,rfl,gf,z⟩,by simp only;omega,rfl,rfl⟩
structure ky (F:FuncId) (H:ab) (b2:List e7) (l:List eS) (G:ab):Prop where
 e:sK H.length b2 G
 c:az G (H.length+2)=.cells 0 [.func (.func F) [] [.ref H.length 0 0]]
 uR:az G (H.length+4)=.cells 0 [.map (H.length+3)]
 pre:∃M,G=H++M
 m:∃es cl,az G (H.length+3)=.map es cl/\yw l es
theorem ky.app{F:FuncId}{H:ab}{b2:List e7}{l:List eS}{G:ab}(k:ky F H b2 l G)(L:ab):ky F H b2 l (G++L):=
 ⟨k.e.app L,bX k.c trivial L,bX k.uR trivial L,let⟨M,e⟩:=k.pre;⟨M++L,by rw[e,c6]⟩,let⟨es,cl,ax,J⟩:=k.m;⟨es,cl,bX ax trivial L,J⟩⟩
theorem ky.set{F:FuncId}{H:ab}{b2:List e7}{l:List eS}{G:ab}(k:ky F H b2 l G){i:Nat}(hi:H.length+4<i)(X:bD):ky F H b2 l (an G i X):=
 ⟨k.e.set gf X,bN k.c gf X,bN k.uR gf X,lz k.pre gf X,let⟨es,cl,ax,J⟩:=k.m;⟨es,cl,bN ax gf X,J⟩⟩
theorem ky.TC{J:List eS}(k:ky F H b2 l G){es:List (I×I×Nat)}(he:yw J es)(cl:Nat):ky F H b2 J (an G (H.length+3)<|.map es cl):=
 ⟨k.e.set gf _,bN k.c gf _,bN k.uR gf _,lz k.pre gf _,⟨es,cl,dK (oC<|cZ k.uR trivial) _,he⟩⟩
theorem ky.bn(k:ky F H b2 l G)(es:List e7):ky F H es l (rT G H.length es):=
 ⟨sK.put k.e.lt es,LS es k.c gf gf,LS es k.uR gf gf,by unfold rT;exact lz (lz k.pre gf _) (bh _) _,let⟨xs,cl,ax,J⟩:=k.m;⟨xs,cl,LS es ax gf gf,J⟩⟩
theorem Mb(h:i<l.length):(l.map dM).getD i .top=dM l[i]:=by simp[h]
theorem aM9(aW bA:Bool)(cm cT:List aH)(dir:Int)(dw:kz cm)(dQ:kz cT)(hd:dv dir=true)(cM:cm.length<=1073741824)(cH:cT.length<=1073741824)(M0:rI cm)(mA:rI cT)(H:ab):
  aO prog 279 [.sl aW (cm.map bj),.sl bA<|cT.map bj,.int .i64 dir] H (.sl false<|(xj (jz cm dir) (jz cT dir)).map dt):=by
 refine bg func279 ?_;have i1:=P5 aW cm dir dw hd cM M0;have i2:=P5 bA cT dir dQ hd cH mA;obtain⟨b5,SH⟩:∃x,x=jz cm dir:=⟨_,rfl⟩;obtain⟨is,RY⟩:∃x,x=jz cT dir:=⟨_,rfl⟩;have hlen:∀(l:List aH),kz l->l.length<=1073741824->(jz l dir).length<=1073741824:=λl hw hl=>by
  unfold jz;split
  ·rename_i ao;exact e1 (QM ao hw (Ao l dir) dir [] hd) hl
  ·exact cb _
 have MY:b5.length<=1073741824:=by rw[SH];exact hlen cm dw cM
 have bl:is.length<=1073741824:=by rw[RY];exact hlen cT dQ cH
 rw[<-SH]at i1 ⊢;rw[<-RY]at i2 ⊢;clear SH RY;refine Al (ι:=Unit) (λ_=>[(0,.sl aW<|cm.map bj),(1,.sl bA<|cT.map bj),(2,.int .i64 dir)]) (λ_=>H) (λ_=>True) ?_ λ_ _=>?_
 ·repeat' first|(refine ae ?_;simp only[go_sem])|refine ai ?_|fail
  exact⟨(),trivial⟩
 refine Al (ι:=Unit) (λ_=>[(7,.sl false<|b5.map dM),(8,.sl false<|is.map dM)]) (λ_=>H) (λ_=>True) ?_ λ_ _=>?_
 ·have Fh:=i1;have Q6:=i2;repeat' first|(refine ae ?_;simp only[go_sem])|refine ai ?_|fail
  exact⟨(),trivial⟩
 refine Al (ι:=Unit) (λ_=>[(7,.sl false<|b5.map dM),(8,.sl false<|is.map dM),(9,.ref H.length 0 0)]) (λ_=>H++[.cells 0 [.sl true []]]) (λ_=>True) ?_ λ_ _=>?_
 ·repeat' first|(refine ae ?_;simp only[go_sem])|refine ai ?_|fail
  exact⟨(),trivial⟩
 refine uM H.length 0 2 (by first|(simp only[go_sem];done)|(simp only[go_sem];rfl)) rfl ?_
 simp only[go_sem];repeat' first|(refine ae ?_;simp only[go_sem])|refine ai ?_|fail
 -- what is there now, by its path
 refine n8 (ι:=ab) (λ_=>[(7,.sl false<|b5.map dM),(8,.sl false<|is.map dM),(9,.ref H.length 0 0),(10,.ref (H.length+2) 0 0),(11,.ref (H.length+4) 0 0)]) (λG=>G) (λG=>ky 319 H [] is G) ?_ λcO yV=>?_
 ·refine c7 (ι:=Nat×ab) (λs=>[(7,.sl false<|b5.map dM),(8,.sl false<|is.map dM),(9,.ref H.length 0 0),(10,.ref (H.length+2) 0 0),(11,.ref (H.length+4) 0 0),(36,.sl false<|is.map dM),(37,.int .i64 is.length),(38,.int .i64 s.1)]) (λs=>s.2) (λs=>s.1<=is.length/\ky 319 H [] (is.take s.1) s.2) (λs=>is.length-s.1) (0,_) ⟨cb _,?_⟩ ?_ rfl ?_
  ·exact⟨⟨by first|(simp only[go_sem];done)|(simp only[go_sem];rfl),by first|(simp only[go_sem];done)|(simp only[go_sem];rfl)⟩,mZ,mZ,⟨_,rfl⟩,⟨[],0,mZ,aCf⟩⟩
  ·simp[go_sem]
  rintro⟨i,G⟩ ⟨hi,K⟩;simp only at hi K ⊢;by_cases U:i<is.length
  ·obtain⟨es,cl,ax,he⟩:=K.m;have a6:=bE ax trivial;have bb:=bE K.uR trivial;have gy:=hU ax trivial;have k1:iV .string es=True:=b1 he.rf;have Z:=Mb U;have AR:=aCg he is[i] cl;rw[<-hc U]at AR;repeat' first|(refine ae ?_;simp only[go_sem,U,Z,dM,k1,a6,bb,gy])|refine ai ?_|fail
   exact⟨(i+1,_),⟨U,(K.TC AR _).app _⟩,by simp only;omega,b7 _<|eb U gf,rfl⟩
  ·have eI:i=is.length:=gf;rw[eI,fe]at K;repeat' first|(refine ae ?_;simp only[go_sem,U])|refine ai ?_|fail
   exact⟨G,K,rfl⟩
 repeat' first|((first|refine cI (aML _ _) ?_|refine ae ?_);simp only[go_sem])|refine ai ?_|fail
 let E:Nat->List e7:=λk=>((b5.drop k).reverse.filter (ke is)).map λt=>⟨1,t.path⟩
 have Fu:∀k,(E k).length<=b5.length:=λk=>by have h1:=o1 (ke is) (b5.drop k).reverse;simp only[E,dq,List.length_reverse,hp]at h1 ⊢;omega
 have yW:∀i (h:i<b5.length),E i=E (i+1)++if ke is b5[i]=true then[⟨1,b5[i].path⟩]else[]:=λi h=>by
  simp only[E];rw[ir h,List.reverse_cons,wS,qz];congr 1;by_cases O:ke is b5[i]=true
  ·simp[O]
  ·simp[O]
 have IU:E b5.length=[]:=by simp[E]
 have dL:H.length+4<cO.length:=cZ yV.uR trivial;refine n8 (ι:=ab) (λ_=>[(7,.sl false<|b5.map dM),(8,.sl false<|is.map dM),(9,.ref H.length 0 0),(10,.ref (H.length+2) 0 0),(11,.ref (H.length+4) 0 0)]) (λG=>G) (λG=>ky 319 H (E 0) is G) ?_ λdd pU=>?_
 ·refine H2 [(7,.sl false<|b5.map dM),(8,.sl false<|is.map dM),(9,.ref H.length 0 0),(10,.ref (H.length+2) 0 0),(11,.ref (H.length+4) 0 0),(48,.func (.func 331) [] [.cptr [.sl false (b5.map dM)]])] (by simp[go_sem]) ?_
  refine J7 rfl aI λy dJ lG=>?_;have yX:dJ.live:=by rw[lG];trivial
  refine(aMk false b5 y (λk G=>ky 319 H (E k) is G/\az G cO.length=dJ) (λi h G hj=>?_) gf _ ⟨by rw[IU];exact yV.app _,uP cO _⟩).mono λ_ H' h=>?_
  ·obtain⟨K,IY⟩:=hj;refine KL IY lG rfl rfl rfl rfl λjF fin Cx xE gO jg=>?_;have f3:=bE IY yX;have g3:=hU IY yX;simp only[w8];refine uu rfl ?_;simp only[go_sem,f3,g3,dM];have aYB:∀X,an (an G cO.length X) cO.length dJ=G:=λX=>by rw[jd,kf IY yX]
   obtain⟨fS,lF⟩:∃fS,an G cO.length jF=fS:=⟨_,rfl⟩;have jN:=cZ IY yX;have hlen:G.length=fS.length:=by rw[<-lF];simp[an]
   have k7:ky 319 H (E<|i+1) is fS:=by rw[<-lF];exact K.set dL jF
   have a3:az fS cO.length=jF:=by rw[<-lF];exact dK jN jF
   rw[lF,hlen];clear lG Cx jg;obtain⟨es,cl,ax,he⟩:=k7.m;have dx:=bE a3 xE;have a6:=bE ax trivial;have bb:=bE k7.uR trivial;have rc:=bE k7.c trivial;have k1:iV .string es=True:=b1 he.rf;have hsz:=Fu<|i+1;have q7:ke is b5[i]=true->∀Y,wD cO.length jF fin fS (λv dC=>v=.bool true/\ky 319 H (E i) is dC/\az dC cO.length=dJ) true none (rT (fS++Y) H.length<|E (i+1)++[⟨1,b5[i].path⟩]):=λO Y=>by
    rw[aNY k7.e.lt];refine⟨bX (LS _ a3 gf gf) xE _,_,Y,rfl,L5 _ _ _,ZR _ gf,rfl,?_,?_⟩
    ·rw[yW i h,aC O,gO];exact(k7.bn _).set dL _
    ·rw[gO];exact dK (by rw[L5,<-hlen];exact jN) _
   have c9:ke is b5[i]=false->∀Y,wD cO.length jF fin fS (λv dC=>v=.bool true/\ky 319 H (E i) is dC/\az dC cO.length=dJ) true none (fS++Y):=λO Y=>by
    refine⟨dx _,fS,Y,rfl,rfl,λ_ _ h=>.inl h,rfl,?_,?_⟩
    ·rw[yW i h,ar (by rw[O];simp),cE,gO]
     exact k7.set dL _
    ·rw[gO];exact dK (by rw[<-hlen];exact jN) _
   cases hk:zh b5[i].path is with
   |none=>
    have T:=he.no hk;have O:ke is b5[i]=true:=by unfold ke;rw[hk]
    repeat' first|(refine ae ?_;simp only[go_sem,T,k1,a6,bb,rc,dx])|refine ai ?_|fail
    refine pT (Iz 1 b5[i].path (E<|i+1) H.length gf _ (k7.e.app _)) aI ?_
    rintro v H' ⟨rfl,rfl⟩;simp only[go_sem];repeat' first|(refine ae ?_;simp only[go_sem])|refine ai ?_|fail
    exact q7 O _
   |some x=>
    obtain⟨j,T⟩:=he.yes hk;by_cases J:x.id=b5[i].id
    ·have O:ke is b5[i]=false:=by unfold ke;rw[hk];simp[J]
     repeat' first|(refine ae ?_;simp only[go_sem,T,k1,a6,bb,rc,dx,dM,J])|refine ai ?_|fail
     exact c9 O _
    ·have O:ke is b5[i]=true:=by unfold ke;rw[hk];simp[J]
     repeat' first|(refine ae ?_;simp only[go_sem,T,k1,a6,bb,rc,dx,dM,J])|refine ai ?_|fail
     refine pT (Iz 1 b5[i].path (E<|i+1) H.length gf _ (k7.e.app _)) aI ?_
     rintro v H' ⟨rfl,rfl⟩;simp only[go_sem];repeat' first|(refine ae ?_;simp only[go_sem])|refine ai ?_|fail
     exact q7 O _
  ·refine .inl ⟨.ready,hW,h.2.trans lG,λX=>?_⟩;exact⟨_,h.1.set gf X,by simp[go_sem],rfl⟩
 obtain⟨m1,m2,m3,m4⟩:=pU.m;have m5:=pU.uR;repeat' first|(refine ae ?_;simp only[go_sem,m3,m5])|refine ai ?_|fail
 have aOq:ky 319 H (E 0) [] (an dd (H.length+3) (.map [] m2)):=pU.TC aCf m2;generalize an dd (H.length+3) (.map [] m2)=G2' at *;clear pU m3 m5 m4
 -- what was there, by its path
 refine n8 (ι:=ab) (λ_=>[(7,.sl false<|b5.map dM),(8,.sl false<|is.map dM),(9,.ref H.length 0 0),(10,.ref (H.length+2) 0 0),(11,.ref (H.length+4) 0 0)]) (λG=>G) (λG=>ky 319 H (E 0) b5 G) ?_ λw3 IT=>?_
 ·refine c7 (ι:=Nat×ab) (λs=>[(7,.sl false<|b5.map dM),(8,.sl false<|is.map dM),(9,.ref H.length 0 0),(10,.ref (H.length+2) 0 0),(11,.ref (H.length+4) 0 0),(72,.sl false<|b5.map dM),(73,.int .i64 b5.length),(74,.int .i64 s.1)]) (λs=>s.2) (λs=>s.1<=b5.length/\ky 319 H (E 0) (b5.take s.1) s.2) (λs=>b5.length-s.1) (0,_) ⟨cb _,aOq⟩ ?_ rfl ?_
  ·simp[go_sem]
  rintro⟨i,G⟩ ⟨hi,K⟩;simp only at hi K ⊢;by_cases U:i<b5.length
  ·obtain⟨es,cl,ax,he⟩:=K.m;have a6:=bE ax trivial;have bb:=bE K.uR trivial;have gy:=hU ax trivial;have k1:iV .string es=True:=b1 he.rf;have Z:=Mb U;have AR:=aCg he b5[i] cl;rw[<-hc U]at AR;repeat' first|(refine ae ?_;simp only[go_sem,U,Z,dM,k1,a6,bb,gy])|refine ai ?_|fail
   exact⟨(i+1,_),⟨U,(K.TC AR _).app _⟩,by simp only;omega,b7 _<|eb U gf,rfl⟩
  ·have eI:i=b5.length:=gf;rw[eI,fe]at K;repeat' first|(refine ae ?_;simp only[go_sem,U])|refine ai ?_|fail
   exact⟨G,K,rfl⟩
 repeat' first|(refine ae ?_;simp only[go_sem])|refine ai ?_|fail
 -- what came
 let S:Nat->List e7:=λk=>E 0++((is.take k).filter (ke b5)).map λt=>⟨2,t.path⟩
 have aAU:∀k,(S k).length<=b5.length+is.length:=λk=>by have h1:=o1 (ke b5)<|is.take k;have h2:=Fu 0;simp only[S,bw,dq,gK]at h1 ⊢;omega
 have aOu:∀i (h:i<is.length),S (i+1)=S i++if ke b5 is[i]=true then[⟨2,is[i].path⟩]else[]:=λi h=>by
  simp only[S];rw[hc h,wS,qz,c6];congr 2;by_cases O:ke b5 is[i]=true
  ·simp[O]
  ·simp[O]
 have aOt:S 0=E 0:=by simp[S]
 refine n8 (ι:=ab) (λ_=>[(7,.sl false<|b5.map dM),(8,.sl false<|is.map dM),(9,.ref H.length 0 0),(10,.ref (H.length+2) 0 0),(11,.ref (H.length+4) 0 0)]) (λG=>G) (λG=>ky 319 H (S is.length) b5 G) ?_ λmm aOr=>?_
 ·refine c7 (ι:=Nat×ab) (λs=>[(7,.sl false<|b5.map dM),(8,.sl false<|is.map dM),(9,.ref H.length 0 0),(10,.ref (H.length+2) 0 0),(11,.ref (H.length+4) 0 0),(83,.sl false<|is.map dM),(84,.int .i64 is.length),(85,.int .i64 s.1)]) (λs=>s.2) (λs=>s.1<=is.length/\ky 319 H (S s.1) b5 s.2) (λs=>is.length-s.1) (0,_) ⟨cb _,by rw[aOt];exact IT⟩ ?_ rfl ?_
  ·simp[go_sem]
  rintro⟨i,G⟩ ⟨hi,K⟩;simp only at hi K ⊢;by_cases U:i<is.length
  ·obtain⟨es,cl,ax,he⟩:=K.m;have a6:=bE ax trivial;have bb:=bE K.uR trivial;have rc:=bE K.c trivial;have k1:iV .string es=True:=b1 he.rf;have Z:=Mb U;have hsz:=aAU i;have V:=aOu i U;have r2:is.length-(i+1)<is.length-i:=gf;cases hk:zh is[i].path b5 with
   |none=>
    have T:=he.no hk;have O:ke b5 is[i]=true:=by unfold ke;rw[hk]
    rw[aC O]at V;repeat' first|(refine ae ?_;simp only[go_sem,U,Z,T,k1,a6,bb,rc,dM])|refine ai ?_|fail
    refine pT (Iz 2 is[i].path (S i) H.length gf _ (K.e.app _)) aI ?_;rintro v H' ⟨rfl,rfl⟩;simp only[go_sem];repeat' first|(refine ae ?_;simp only[go_sem])|refine ai ?_|fail
    exact⟨(i+1,_),⟨U,by rw[V];exact(K.app _).bn _⟩,r2,b7 _<|eb U gf,rfl⟩
   |some x=>
    obtain⟨j,T⟩:=he.yes hk;by_cases J:x.id=is[i].id
    ·have O:ke b5 is[i]=false:=by unfold ke;rw[hk];simp[J]
     rw[ar (by rw[O];simp),cE]at V
     repeat' first|(refine ae ?_;simp only[go_sem,U,Z,T,k1,a6,bb,rc,dM,J])|refine ai ?_|fail
     exact⟨(i+1,_),⟨U,by rw[V];exact K.app _⟩,r2,b7 _<|eb U gf,rfl⟩
    ·have O:ke b5 is[i]=true:=by unfold ke;rw[hk];simp[J]
     rw[aC O]at V;repeat' first|(refine ae ?_;simp only[go_sem,U,Z,T,k1,a6,bb,rc,dM,J])|refine ai ?_|fail
     refine pT (Iz 2 is[i].path (S i) H.length gf _ (K.e.app _)) aI ?_;rintro v H' ⟨rfl,rfl⟩;simp only[go_sem];repeat' first|(refine ae ?_;simp only[go_sem])|refine ai ?_|fail
     exact⟨(i+1,_),⟨U,by rw[V];exact(K.app _).bn _⟩,r2,b7 _<|eb U gf,rfl⟩
  ·have eI:i=is.length:=gf;rw[eI]at K;repeat' first|(refine ae ?_;simp only[go_sem,U])|refine ai ?_|fail
   exact⟨G,K,rfl⟩
 repeat' first|(refine ae ?_;simp only[go_sem])|refine ai ?_|fail
 -- what was written
 let I:Nat->List e7:=λk=>S is.length++((is.take k).filter (o6 b5)).map λt=>⟨3,t.path⟩
 have aOw:∀k,(I k).length<=b5.length+2 * is.length:=λk=>by
  have h1:=o1 (o6 b5)<|is.take k;have h2:=aAU is.length;have h3:(I k).length=(S is.length).length+((is.take k).filter (o6 b5)).length:=by simp only[I,bw,dq]
  rw[gK]at h1;omega
 have aOx:∀i (h:i<is.length),I (i+1)=I i++if o6 b5 is[i]=true then[⟨3,is[i].path⟩]else[]:=λi h=>by
  show S is.length++(((is.take (i+1)).filter (o6 b5)).map λt=>(⟨3,t.path⟩:e7))=(S is.length++((is.take i).filter (o6 b5)).map λt=>(⟨3,t.path⟩:e7))++_;generalize S is.length=z;rw[hc h,wS,qz,<-c6];congr 1;by_cases O:o6 b5 is[i]=true
  ·simp[O]
  ·simp[O]
 have aOv:I 0=S is.length:=by simp[I]
 refine n8 (ι:=ab) (λ_=>[(7,.sl false<|b5.map dM),(8,.sl false<|is.map dM),(9,.ref H.length 0 0),(10,.ref (H.length+2) 0 0),(11,.ref (H.length+4) 0 0)]) (λG=>G) (λG=>ky 319 H (I is.length) b5 G) ?_ λpJ Rl=>?_
 ·refine c7 (ι:=Nat×ab) (λs=>[(7,.sl false<|b5.map dM),(8,.sl false<|is.map dM),(9,.ref H.length 0 0),(10,.ref (H.length+2) 0 0),(11,.ref (H.length+4) 0 0),(110,.sl false<|is.map dM),(111,.int .i64 is.length),(112,.int .i64 s.1)]) (λs=>s.2) (λs=>s.1<=is.length/\ky 319 H (I s.1) b5 s.2) (λs=>is.length-s.1) (0,_) ⟨cb _,by rw[aOv];exact aOr⟩ ?_ rfl ?_
  ·simp[go_sem]
  rintro⟨i,G⟩ ⟨hi,K⟩;simp only at hi K ⊢;by_cases U:i<is.length
  ·obtain⟨es,cl,ax,he⟩:=K.m;have a6:=bE ax trivial;have bb:=bE K.uR trivial;have rc:=bE K.c trivial;have k1:iV .string es=True:=b1 he.rf;have Z:=Mb U;have hsz:=aOw i;have V:=aOx i U;have r2:is.length-(i+1)<is.length-i:=gf;cases hk:zh is[i].path b5 with
   |none=>
    have T:=he.no hk;have O:o6 b5 is[i]=false:=by unfold o6;rw[hk]
    rw[ar (by rw[O];simp),cE]at V
    repeat' first|(refine ae ?_;simp only[go_sem,U,Z,T,k1,a6,bb,rc,dM])|refine ai ?_|fail
    exact⟨(i+1,_),⟨U,by rw[V];exact K.app _⟩,r2,b7 _<|eb U gf,rfl⟩
   |some x=>
    obtain⟨j,T⟩:=he.yes hk;by_cases J:x.id=is[i].id
    ·by_cases aJ:x.data=is[i].data
     ·have O:o6 b5 is[i]=false:=by unfold o6;rw[hk];simp[J,aJ]
      rw[ar (by rw[O];simp),cE]at V
      repeat' first|(refine ae ?_;simp only[go_sem,U,Z,T,k1,a6,bb,rc,dM,J,aJ])|refine ai ?_|fail
      exact⟨(i+1,_),⟨U,by rw[V];exact K.app _⟩,r2,b7 _<|eb U gf,rfl⟩
     ·have O:o6 b5 is[i]=true:=by unfold o6;rw[hk];simp[J,aJ]
      rw[aC O]at V;repeat' first|(refine ae ?_;simp only[go_sem,U,Z,T,k1,a6,bb,rc,dM,J,aJ])|refine ai ?_|fail
      refine pT (Iz 3 is[i].path (I i) H.length gf _ (K.e.app _)) aI ?_;rintro v H' ⟨rfl,rfl⟩;simp only[go_sem];repeat' first|(refine ae ?_;simp only[go_sem])|refine ai ?_|fail
      exact⟨(i+1,_),⟨U,by rw[V];exact(K.app _).bn _⟩,r2,b7 _<|eb U gf,rfl⟩
    ·have O:o6 b5 is[i]=false:=by unfold o6;rw[hk];simp[J]
     rw[ar (by rw[O];simp),cE]at V
     repeat' first|(refine ae ?_;simp only[go_sem,U,Z,T,k1,a6,bb,rc,dM,J])|refine ai ?_|fail
     exact⟨(i+1,_),⟨U,by rw[V];exact K.app _⟩,r2,b7 _<|eb U gf,rfl⟩
  ·have eI:i=is.length:=gf;rw[eI]at K;repeat' first|(refine ae ?_;simp only[go_sem,U])|refine ai ?_|fail
   exact⟨G,K,rfl⟩
 have fL:=Rl.e.fL;have aW:=Rl.e.aW;repeat' first|(refine ae ?_;simp only[go_sem,fL])|refine ai ?_|fail
 obtain⟨L,gW⟩:=Rl.pre;have y3:I is.length=xj b5 is:=by simp only[I,S,E,fe,List.drop_zero];rfl
 rw[gW]at aW ⊢;rw[y3]at aW ⊢;exact uV (cs:=jZ<|xj b5 is) (es:=(xj b5 is).map dt) (rest:=[]) gf aW (by rw[cE];rfl) hW (λe he=>by obtain⟨x,_,rfl⟩:=bP.1 he;rfl) (λe he=>by obtain⟨x,_,rfl⟩:=bP.1 he;exact mZ) rfl
theorem aN7{p:α->Bool}{A B:List α}{x:α}(K:A.filter (λx=> !p x)=A)(J:p x=true):(A++x::B).find? p=some x:=by
 rw[List.find?_append];have:A.find? p=none:=by rw[List.find?_eq_none];intro a U;rw[<-K]at U;have:=(mg.1 U).2;simpa using this
 rw[this];simp[J]
theorem aNT{n:Int}{A B:List o5}{w:o5}(U:A.filter (λx=> !decide (x.n=n))=A)(J:w.n=n):vy n (A++w::B)=A++{w with b2:=[]}::B:=by
 induction A with
 |nil=>simp[vy,J]
 |cons a A O=>
  have K:a.n≠n:=by
   have S:a∈(a::A).filter (λx=> !decide (x.n=n)):=by rw[U];simp
   simpa using(mg.1 S).2
  rw[mf,vy,ar K,O]
  ·rfl
  ·rw[sG,aC<|by simp[K]]at U
   exact(DU U).2
theorem aQN{p:α->Bool}{l:List α}(h:e3 p l= -1):l.find? p=none:=by rw[List.find?_eq_none];intro x J;rw[<-N9 h]at J;have:=(mg.1 J).2;simpa using this
def Th:List cK:=[.ah 0,.ah 0,.ah 0,.ah 0,.ah 0,.ah 0,.bW [false,true,true,true,true,true],.ah 0,.ah 0,.ah 0,.bW [false,true,true]]
def Ti:List cK:=[.aQ,.ah 0,.aQ,.ah 0,.ah 0,.ah 0,.aQ,.ah 0,.ah 0,.ah 0,.ah 0,.ah 0,.ah 0,.aQ,.aQ,.aQ,.ah 0,.ah 0,.bW [false,true,false,false,false,false,false,false,false,false,false,true],.ah 0,.ah 0,.ah 0,.bW [false,true,true]]
def aCK:List cK:=[.aQ,.aQ,.ah 0,.ah 0,.ah 0,.aQ,.aQ,.ah 0,.ah 0,.ah 0,.ah 0,.ah 0,.aQ,.ah 0,.ah 0,.ah 0,.ah 0,.ah 0,.ah 0,.ah 0,.bW [false,true]]
attribute [go_sem] Th Ti aCK
theorem aNI(T:gL i j c d G)(hs:oo d.m):rP prog 274 i j c (EV c d) G:=by
 refine HV func274 ?_;have J:=T.aW;have U:=bE T.aW trivial;have K:=bE T.bA trivial;have aT:=T.ne;have cM:=T.eV;have Z:=T.fF;have a6:=T.a6;have bb:=T.bb;have O:=bc G i;simp only[fN]at J U;have S:=od cM Z aT rfl;have V:∀H,az H G.length=.cells 0 [.ref i 0 0]->az H i=.cells 0 (fN j c d)->aO prog 311 [.sl false (d.m.cq.map dY),.func (.func 312) [] [.ref G.length 0 0]] H (.int .i64<|e3 (λs=>decide (s.n=c.n)) d.m.cq):=
  λH h1 h2=>Wq false d.m.cq (.func 312) [] [.ref G.length 0 0] (λs=>decide<|s.n=c.n) H (λs=>.mk (first:=[]) (λL=>aRM G.length (bX h1 trivial L) (bX h2 trivial L) s) aI)
 simp only[fN]at V;have k1:¬i=G.length:=gf;unfold EV;have vV:=hs.cq;by_cases h1:e3 (λs:o5=>decide<|s.n=c.n) d.m.cq= -1
 ·rw[h1]at V;rw[aQN h1];repeat' first|((first|refine ia (V _ (by simp only[go_sem,J,U,K,a6,bb,O,S,bc,Int.reduceLT])<|by simp only[go_sem,J,U,K,a6,bb,O,S,bc,Int.reduceLT]) aI ?_|refine kg (V _ (by simp only[go_sem,J,U,K,a6,bb,O,S,bc,Int.reduceLT])<|by simp only[go_sem,J,U,K,a6,bb,O,S,bc,Int.reduceLT]) aI ?_|refine kh (λ_=>V _ (by simp only[go_sem,J,U,K,a6,bb,O,S,bc,Int.reduceLT])<|by simp only[go_sem,J,U,K,a6,bb,O,S,bc,Int.reduceLT]) aI ?_|refine ae ?_);simp only[go_sem,J,U,K,a6,bb,O,S,bc,Int.reduceLT])|refine ai ?_|fail
  exact Q8 T rfl _
 obtain⟨A,w,B,ax,aq,aU,bf⟩:=Xh h1;rw[aq]at V;have hw:w.n=c.n:=oq aU;have C8:d.m.cq.find? (λs=>decide<|s.n=c.n)=some w:=by rw[ax];exact aN7 bf aU
 rw[C8];simp only;have MN:vy c.n d.m.cq=A++{w with b2:=[]}::B:=by rw[ax];exact aNT bf hw
 rw[MN];have hle:w.b2.length<=1000000:=hs.b2 w<|by rw[ax];simp
 have hlen:d.m.cq.length=A.length+(B.length+1):=by rw[ax];simp
 have d1:decide (((A.length:Nat):Int)<0)=false:=dA;repeat' first|((first|refine ia (V _ (by simp only[go_sem,J,U,K,a6,bb,O,S,bc,d1])<|by simp only[go_sem,J,U,K,a6,bb,O,S,bc,d1]) aI ?_|refine kg (V _ (by simp only[go_sem,J,U,K,a6,bb,O,S,bc,d1])<|by simp only[go_sem,J,U,K,a6,bb,O,S,bc,d1]) aI ?_|refine kh (λ_=>V _ (by simp only[go_sem,J,U,K,a6,bb,O,S,bc,d1])<|by simp only[go_sem,J,U,K,a6,bb,O,S,bc,d1]) aI ?_|refine mx [4] Th ?_|refine mx [6] Ti ?_|refine ae ?_);simp only[go_sem,J,U,K,a6,bb,O,S,bc,d1])|refine ai ?_|fail
 refine qj (Ma false d.m.cq gf _) aI ?_;simp only[go_sem,J,U,K,a6,bb,O,S,bc];have z:=en (enc:=dY) (s:=4) (λ_=>rfl) A;have eh:aV dY d.m.cq=aV dY A++(.int .i64 w.n::.int .i64 w.dir::.sl false (w.b2.map dt)::.bool w.over::aV dY B):=by rw[ax,iP,p9];rfl
 have ju:List.drop (A.length * 4+2) (aV dY d.m.cq)=.sl false (w.b2.map dt)::.bool w.over::aV dY B:=by rw[eh,<-z,List.drop_append];simp
 have uC:List.take 2 (List.drop (A.length * 4+2)<|aV dY d.m.cq)=[.sl false (w.b2.map dt),.bool w.over]:=by rw[ju];rfl
 have zb:(aV dY d.m.cq).getD (A.length * 4+2) .top=.sl false (w.b2.map dt):=by rw[gg,<-List.head?_drop,ju];rfl
 have qY:(aV dY d.m.cq).length=(A.length+(B.length+1)) * 4:=by rw[en (s:=4) (λ_=>rfl),hlen]
 have l3:=aSU false w.over w.b2 (w.b2.length:Int) gf;simp only[h5,Nat.min_self,qD,fe,jm]at l3;have ee:du (aV dY d.m.cq) (A.length * 4+2) [.sl false [],.bool w.over]=aV dY (A++{w with b2:=[]}::B):=by
  have e:=rW (A:=aV dY A++[.int .i64 w.n,.int .i64 w.dir]) (B:=.sl false (w.b2.map dt)::.bool w.over::aV dY B) (off:=A.length * 4+2) (X:=[.sl false [],.bool w.over])<|by simp[z]
  rw[eh];rw[show aV dY A++[I.int .i64 w.n,.int .i64 w.dir]++(.sl false (w.b2.map dt)::.bool w.over::aV dY B)=aV dY A++(.int .i64 w.n::.int .i64 w.dir::.sl false (w.b2.map dt)::.bool w.over::aV dY B) by simp]at e
  rw[e,iP,p9];simp[dY,I.cells]
 repeat' first|((first|refine mx [4] Th ?_|refine mx [6] Ti ?_|refine ae ?_);simp only[go_sem,J,U,K,a6,bb,O,S,bc,hlen,uC,zb,qY,ee])|refine ai ?_|fail
 refine IC T rfl rfl rfl ?_;unfold fN;repeat' first|exact fx|refine ds ?_ ?_|exact .cl _ (.int _ _)|exact .cl _ (.str _)|exact .cl _ (EY _ _ _)|exact .cl _ (EX _ _ _)|exact .cl _ (EZ _ _ _)|exact .cl _ (E0 _ _ _)|exact .cl _ (E1 _ _ _)|exact .cl _ (E2 _ _ _)|exact .cl _<|.osl _ _ _ _ _ _ Z
 exact Ct gf (by first|(simp only[go_sem,J,U,K,a6,bb,O,S,bc];done)|(simp only[go_sem,J,U,K,a6,bb,O,S,bc];rfl)) hW (λ_=>rfl) λx=>mZ
theorem aNB(a b:List eS):(xj a b).length<=a.length+b.length+b.length:=by unfold xj;simp only[bw,dq];have h1:=o1 (ke b) a;have h2:=o1 (ke a) b;have h3:=o1 (o6 a) b;have h4:=o1 (ke b) a.reverse;rw[List.length_reverse]at h4;omega
theorem Qz{l:List aH}(h:kz l){dir:Int}(hd:dv dir=true):(jz l dir).length<=l.length:=by
 unfold jz;split
 ·rename_i J;exact QM J h _ _ _ hd
 ·exact cb _
theorem aNE{d':cB}{L:ab}{cs:List I}(h:gL i j c d G)(K:d'.ops=d.ops)(hl:cs.length=18)
  (O:∀(m:Nat) (x y:I),cs[m]?=some x->(fN j c d')[m]?=some y->cJ G.length (an G i (.cells 0 cs)++L) x y):
  ∃A U H1 y,an G i (.cells 0 cs)++L=A++U/\A.length=G.length/\H1.length=G.length/\Ck G.length (an G i (.cells 0 cs)++L) A H1 G/\cJ G.length (an G i (.cells 0 cs)++L) (.aN []) y/\(y=.aN []/\H1=gC G i j c d'):=by
 obtain⟨A,U,H1,y,ax,S,aU,bf, -, -,T⟩:=IC (e:=0) h rfl K hl O;exact⟨A,U,H1,_,ax,S,aU,bf,.cl _<|.aN _ λ_ _ J=>by simp at J,rfl,T⟩
structure UH (b5:List aH) (d:cB):Prop where
 Ub:kz b5
 Uc:kz d.m.log.nodes
 aDb:rI b5
 aDc:rI d.m.log.nodes
 len:b5.length<=1000000
 dir:∀w∈d.m.cq,dv w.dir=true
theorem aNM(J:gL i j c d G)(hs:oo d.m)(f:Bool)(b5:List aH)(ag:UH b5 d):
  cV prog 233 [.ref i 0 0,.sl f<|b5.map bj] G (λv H'=>v=.aN []/\H'=gC G i j c (Ap b5 d)):=by
 refine HV func233 ?_;have U:=J.aW;have K:=bE J.aW trivial;have O:=bE J.bA trivial;have aT:=J.ne;have cM:=J.eV;have cH:=J.fF;have a6:=J.a6;have bb:=J.bb;have S:=bc G i;simp only[fN]at U K;have V:=od cM cH aT rfl;have vV:=hs.cq;have mA:=hs.nodes;repeat' first|(refine ae ?_;simp only[go_sem,U,K,O,a6,bb,S,V,bc])|refine ai ?_|fail
 refine c4 (Ma false d.m.cq gf _) aI ?_;rintro v H' ⟨rfl,rfl⟩;simp only[go_sem,U,K,O,a6,bb,S,V,bc];repeat' first|(refine ae ?_;simp only[go_sem,U,K,O,a6,bb,S,V,bc])|refine ai ?_|fail
 obtain⟨T,cX⟩:∃T,T=QK b5 d.m.log.nodes:=⟨_,rfl⟩;obtain⟨W,Z⟩:∃W:Nat->List o5,W=λk=>(d.m.cq.take k).map T++d.m.cq.drop k:=⟨_,rfl⟩;have MG:∀k,(W k).length=d.m.cq.length:=λk=>by rw[Z];simp only[bw,dq,gK,hp];omega
 obtain⟨n,af⟩:∃n,n=d.m.cq.length:=⟨_,rfl⟩;rw[<-af]at MG vV ⊢;obtain⟨X,dk⟩:∃X:List I,X=[.sl false (d.m.log.entries.map dT),.sl false<|d.m.log.nodes.map bj,.int .i64 d.m.seen,.int .i64 d.m.rep,.sl false<|d.m.dh.map jj,.osl 4 G.length 1 0 n n,.int .i64 d.m.next,
  .int .i64 d.a.err,.str d.a.data,.sl false<|d.a.names.map I.str,.int .i64 d.a.n,.sl false<|d.a.events.map dt,
  .int .i64 c.kind,.str c.path,.str c.to,.str c.data,.int .i64 c.n,.osl 7 j (d.ops.length+1) 0 d.ops.length d.ops.length]:=⟨_,rfl⟩
 refine c7 (ι:=Nat) (λk=>[(0,.ref i 0 0),(1,.sl f<|b5.map bj),(21,.int .i64 n),(22,.int .i64 k)]) (λk=>an G i (.cells 0 X)++[.cells 1 (aV dY<|W k)]) (λk=>k<=n) (λk=>n-k) 0 (cb _) ?_ ?_ ?_
 ·simp[go_sem]
 ·rw[dk,Z];simp
 intro k hk;by_cases av:k<n
 ·have Ry:W k=(d.m.cq.take k).map T++d.m.cq[k]::d.m.cq.drop (k+1):=by rw[Z];simp only;rw[ir gf]
  have yY:W (k+1)=(d.m.cq.take k).map T++T d.m.cq[k]::d.m.cq.drop (k+1):=by rw[Z];simp only;rw[hc gf,qz,c6];rfl
  obtain⟨w,hw⟩:∃w,w=d.m.cq[k]:=⟨_,rfl⟩;rw[<-hw]at Ry yY;have uI:w∈d.m.cq:=by rw[hw];exact fQ _
  obtain⟨A,cc⟩:∃A,A=(d.m.cq.take k).map T:=⟨_,rfl⟩;have aOn:A.length=k:=by rw[cc,dq,gK];omega
  rw[<-cc]at Ry yY;have FI:=en (enc:=dY) (s:=4) (λ_=>rfl) A;rw[aOn]at FI;have eh:aV dY (W k)=aV dY A++(.int .i64 w.n::.int .i64 w.dir::.sl false (w.b2.map dt)::.bool w.over::aV dY (d.m.cq.drop<|k+1)):=by rw[Ry,iP,p9];rfl
  have qY:(aV dY (W k)).length=n * 4:=by rw[en (s:=4) (λ_=>rfl),MG]
  have ju:∀q,List.drop (k * 4+q) (aV dY<|W k)=List.drop q (.int .i64 w.n::.int .i64 w.dir::.sl false (w.b2.map dt)::.bool w.over::aV dY (d.m.cq.drop<|k+1)):=λq=>by rw[eh,<-FI,List.drop_append];simp
  have uC:List.take 2 (List.drop (k * 4+2)<|aV dY (W k))=[.sl false (w.b2.map dt),.bool w.over]:=by rw[ju];rfl
  have zb:(aV dY (W k)).getD (k * 4+1) .top=.int .i64 w.dir:=by rw[gg,<-List.head?_drop,ju];rfl
  have eH:=ag.dir w uI;have RK:=aM9 f false b5 d.m.log.nodes w.dir ag.Ub ag.Uc eH (oC ag.len) gf ag.aDb ag.aDc;obtain⟨D,bR⟩:∃D,D=xj (jz b5 w.dir) (jz d.m.log.nodes w.dir):=⟨_,rfl⟩;rw[<-bR]at RK;have rV:D.length<=1073741824:=by have h1:=aNB (jz b5 w.dir)<|jz d.m.log.nodes w.dir;have h2:=Qz ag.Ub eH;have h3:=Qz ag.Uc eH;have:=ag.len;rw[bR];omega
  have hle:=hs.b2 w uI;have r4:=aSS false false w.over w.b2 D gf rV;have aOP:T w={w with b2:=(ox w.b2 w.over D).1,over:=(ox w.b2 w.over D).2}:=by rw[cX,bR];rfl
  have ee:du (aV dY<|W k) (k * 4+2) [.sl false ((ox w.b2 w.over D).1.map dt),.bool (ox w.b2 w.over D).2]=aV dY (W<|k+1):=by
   have e:=rW (A:=aV dY A++[.int .i64 w.n,.int .i64 w.dir]) (B:=.sl false (w.b2.map dt)::.bool w.over::aV dY (d.m.cq.drop (k+1))) (off:=k * 4+2) (X:=[.sl false ((ox w.b2 w.over D).1.map dt),.bool (ox w.b2 w.over D).2])<|by simp[FI]
   rw[eh];rw[show aV dY A++[I.int .i64 w.n,.int .i64 w.dir]++(.sl false (w.b2.map dt)::.bool w.over::aV dY (d.m.cq.drop<|k+1))=aV dY A++(.int .i64 w.n::.int .i64 w.dir::.sl false (w.b2.map dt)::.bool w.over::aV dY (d.m.cq.drop<|k+1)) by simp]at e
   rw[e,yY,iP,p9,aOP];simp[dY,I.cells]
  have bl:decide ((k:Int)<(n:Int))=true:=cS;repeat' first|((first|refine mx [5] aCK ?_|refine ae ?_);simp only[go_sem,U,K,O,a6,bb,S,V,bc,dk,bl,uC,zb,qY,ee])|refine ai ?_|fail
  exact⟨k+1,av,gf,b7 _<|eb av gf,rfl⟩
 ·have k8:k=n:=gf;have bl:decide ((k:Int)<(n:Int))=false:=dA;repeat' first|(refine ae ?_;simp only[go_sem,U,K,O,a6,bb,S,V,bc,bl])|refine ai ?_|fail
  have z:W k=(Ap b5 d).m.cq:=by rw[Z,k8,af];simp only[fe,qD,cE];rw[cX];rfl
  rw[z];subst dk;refine aNE J rfl rfl ?_;unfold fN;repeat' first|exact fx|refine ds ?_ ?_|exact .cl _ (.int _ _)|exact .cl _ (.str _)|exact .cl _ (EY _ _ _)|exact .cl _ (EX _ _ _)|exact .cl _ (EZ _ _ _)|exact .cl _ (E0 _ _ _)|exact .cl _ (E1 _ _ _)|exact .cl _ (E2 _ _ _)|exact .cl _<|.osl _ _ _ _ _ _ cH
  exact Ct (bh _) (by first|(simp only[go_sem,U,K,O,a6,bb,S,V,bc];done)|(simp only[go_sem,U,K,O,a6,bb,S,V,bc];rfl)) (by rw[<-z,MG]) (λ_=>rfl) λx=>mZ
structure OD (d0 d:cB) (k:Nat):Prop where
 br:oo d.m
 c8:d.m.log.entries.length<=200
 nodes:d.m.log.nodes.length<=400+401 * k
 ops:d.ops.length<=d0.ops.length+k
theorem aMR{d0:cB}(h:OD d0 d k)(hk:k<200){o:bk}(J:hR o):OD d0 (oj d o).2 (k+1):=by
 obtain⟨K,O,U⟩:=Ex d.m.log o;have S:=U h.c8;have h1:=h.nodes;have h2:=h.ops;have h3:=h.c8;unfold oj;split
 ·refine⟨⟨by simp only;omega,by simp only;omega,λe he=>Ym d.m.log o hR h.br.ops J e he,h.br.dh,h.br.cq,h.br.snap,h.br.b2⟩,by simp only;omega,by simp only;omega,by simp only[bw,cd,dZ];omega⟩
 ·exact⟨h.br,h3,by simp only;omega,by simp only;omega⟩
theorem aR4{b:al}{l:List bk}(h:jC b=some l):l.length<=b.length:=by
 have key:∀(n:Nat) (b:al) (l:List bk),oW n b=some l->l.length<=n:=by
  intro n;induction n with
  |zero=>
   intro b l h;unfold oW at h;split at h
   ·cases h;simp
   ·cases h
  |succ n J=>
   intro b l h;unfold oW at h;split at h
   ·cases h;simp
   ·simp only[kv]at h;obtain⟨⟨o,r⟩, -,h2⟩:=h;simp only[gA]at h2;obtain⟨t,h3,rfl⟩:=h2;have:=J r t h3;rw[cd];omega
 exact key _ _ _ h
theorem aRk(f:bk)(k:Nat)(o:bk)(G:ab)(hk:az G k=.cells 0 (bt o).cells):aO prog 314 [bt f,.ref k 0 0] G (.bool<|decide (f.at_=o.at_)):=by refine bg func314 ?_;have J:=bE hk trivial;simp only[bt,I.cells]at hk J;refine bL bt.eq_1 ?_;exact aX<|.of (by rw[Zn])
theorem aOV(l:List bk)(o:bk)(i v lc n k:Nat)(af:n=l.length)(U:n<=lc)(hl:n<=1073741824)(H:ab)(K:az H i=.cells v (aV bt l))(hk:az H k=.cells 0 (bt o).cells):
  aO prog 315 [.osl 7 i v 0 n lc,.func (.func 314) [] [.ref k 0 0]] H (.bool<|l.any λf=>decide (f.at_=o.at_)):=by
 refine bg func315 ?_;have J:=aL0 l (λf=>decide (f.at_=o.at_)) i v lc n af U hl (fn:=.func 314) (fs:=[]) (cs:=[.ref k 0 0]) H K λx=>Or.inl ⟨aI,aRk x k o H hk⟩;repeat' first|((first|refine hI J ?_|refine ae ?_);simp only[go_sem])|refine ai ?_|fail
 exact bJ<|.of (by rw[HH])
theorem aNF(K:gL i j c d G)(hs:oo d.m)(ao:o3 c)(hl:d.ops.length<=1000)(eu:d.m.log.entries.length<=200/\d.m.log.nodes.length<=400):rP prog 276 i j c (Cj c d) G:=by
 refine h9 func276 ?_;have bd:=K.aW;have aS:=bE K.aW trivial;have aY:=bE K.bA trivial;have aT:=K.ne;have cM:=K.eV;have cH:=K.fF;have a6:=K.a6;have bb:=K.bb;have b3:=bc G i;simp only[fN]at bd aS;have bI:=od cM cH aT rfl;unfold Cj;have td:=aMg c.data (oC ao.data);unfold Qh at td;cases aw:jC c.data with
 |none=>
  simp only[aw]at td;repeat' first|(refine ae ?_;simp only[go_sem,bd,aS,aY,a6,bb,b3,bI,bc])|refine bp ?_|(refine bz ?_ ?_<;>intro h<;>try exact bx h)|fail
  exact jX K rfl K.own.symm
 |some l=>
  simp only[aw]at td ⊢;obtain⟨z,Z⟩:∃z,z=(if(200:Int)<(d.m.log.entries.length:Int)+((gw d.m.log [] l).length:Int)then(193,d)else
   if(mR d (gw d.m.log [] l)).1=0 then
    (0,{(mR d (gw d.m.log [] l)).2 with a:={(mR d (gw d.m.log [] l)).2.a with n:=(gw d.m.log [] l).length},m:={(mR d (gw d.m.log [] l)).2.m with seen:=l.foldl (λn o=>mK n o.at_) d.m.seen}})
   else mR d (gw d.m.log [] l)):=⟨_,rfl⟩
  rw[<-Z];have vZ:l.length<=1048576:=e1 (aR4 aw) ao.data;have pj:∀o∈l,hR o:=λo aD=>Ez<|Ew aw o aD
  repeat' first|(refine ae ?_;simp only[go_sem,bd,aS,aY,a6,bb,b3,bI,bc])|refine ai ?_|fail
  refine xU 6 7 rfl ?_;obtain⟨U,lI⟩:∃U,U=gw d.m.log [] l:=⟨_,rfl⟩;obtain⟨Bs,mB⟩:∃Bs,Bs=l.foldl (λn o=>mK n o.at_) d.m.seen:=⟨_,rfl⟩;rw[<-lI,<-mB]at Z;refine n8 (ι:=ab) (λM=>[(0,.ref i 0 0),(5,.int .i64 Bs),(6,.osl 7 G.length (U.length+1) 0 U.length U.length)]) (λM=>G++(.cells (U.length+1) (aV bt U)::M)) (λ_=>U.length<=l.length) ?_ λM eh=>?_
  ·refine c7 (ι:=Nat×Int×List bk×ab) (λs=>[(0,.ref i 0 0),(5,.int .i64 s.2.1),(6,.osl 7 G.length (s.2.2.1.length+1) 0 s.2.2.1.length s.2.2.1.length),(29,.sl false<|l.map bt),(30,.int .i64 l.length),(31,.int .i64 s.1)])
    (λs=>G++(.cells (s.2.2.1.length+1) (aV bt s.2.2.1)::s.2.2.2)) (λs=>s.1<=l.length/\s.2.2.1.length<=s.1/\U=gw d.m.log s.2.2.1 (l.drop s.1)/\Bs=(l.drop s.1).foldl (λn o=>mK n o.at_) s.2.1) (λs=>l.length-s.1) (0,d.m.seen,[],[]) ⟨cb _,bh _,lI,mB⟩ ?_ rfl ?_
   ·simp[go_sem]
   rintro⟨k,s,acc,M⟩ ⟨hk,T,V,jg⟩;simp only at hk T V jg ⊢;obtain⟨dd,a7⟩:∃dd,G++(.cells (acc.length+1) (aV bt acc)::M)=dd:=⟨_,rfl⟩;rw[a7];have g0:az dd G.length=.cells (acc.length+1) (aV bt acc):=by rw[<-a7];simp only[go_sem]
   have g1:=bE g0 trivial;have g2:=hU g0 trivial;have gs:∀X,an dd G.length X=G++(X::M):=λX=>by rw[<-a7];simp only[go_sem]
   have hz:gL i j c d dd:=a7▸K.app _;have x5:=hz.aW;have cw:=bE hz.aW trivial;simp only[fN]at x5 cw;by_cases O:k<l.length
   ·have ju:=ir O;rw[ju,gw]at V;rw[ju,qC]at jg;have cA:=ek bt O;obtain⟨o,aD⟩:∃o,o=l[k]:=⟨_,rfl⟩;rw[<-aD]at V jg cA;simp only[bt]at cA;have bl:decide ((k:Int)<(l.length:Int))=true:=cS;have FU:=Y2 s o.at_ true;have vX:=ZG false false d.m.log o.at_;simp only[rj,DC]at vX;have hw:=eb O gf;have eh:=en (enc:=bt) (s:=7) (λ_=>rfl) acc;have FO:=aOV acc o G.length (acc.length+1) acc.length acc.length dd.length rfl (bh _) gf (dd++[.cells 0 [.int .i64 o.at_.c,.int .i64 o.at_.r,.int .i64 o.kind,.int .i64 o.node,.int .i64 o.parent,.str o.name,.str o.data]]) (g1 _)<|uP _ _
    have jw:(∀e,e=I.agg [.int .i64 o.at_.c,.int .i64 o.at_.r,.int .i64 o.kind,.int .i64 o.node,.int .i64 o.parent,.str o.name,.str o.data]->e.cells.length=7)=True:=b1 λe he=>by rw[he];rfl
    have iA:((acc.length+1) * 72<=140737488355328)=True:=b1 gf;cases cc:rq d.m.log.entries o.at_ with
    |true=>
     rw[cc]at vX V;repeat' first|(refine ae ?_;simp only[go_sem,x5,cw,g0,g1,g2,cA,bl,O])|refine ai ?_|fail
     exact⟨(k+1,mK s o.at_,acc,M++[.cells 0 (bt o).cells]),⟨O,by simp only;omega,oq V,jg⟩,by simp only;omega,⟨rfl,rfl,b7 _ hw⟩,by show dd++[.cells 0 (bt o).cells]=_;rw[<-a7];simp⟩
    |false=>
     rw[cc]at vX V;cases cf:acc.any (λf=>decide<|f.at_=o.at_)with
     |true=>
      rw[cf]at FO V;repeat' first|((first|refine hI FO ?_|refine ae ?_);simp only[go_sem,x5,cw,g0,g1,g2,cA,bl,O])|refine ai ?_|fail
      exact⟨(k+1,mK s o.at_,acc,M++[.cells 0 (bt o).cells]),⟨O,by simp only;omega,oq V,jg⟩,by simp only;omega,⟨rfl,rfl,b7 _ hw⟩,by show dd++[.cells 0 (bt o).cells]=_;rw[<-a7];simp⟩
     |false=>
      rw[cf]at FO V;repeat' first|((first|refine hI FO ?_|refine ae ?_);simp only[go_sem,x5,cw,g0,g1,g2,cA,bl,O,jw,iA,eh])|refine ai ?_|fail
      refine⟨(k+1,mK s o.at_,acc++[o],M++[.cells 0 (bt o).cells]),⟨O,by simp only[bw,cd,dZ];omega,oq V,jg⟩,by simp only;omega,⟨rfl,?_,b7 _ hw⟩,?_⟩
      ·simp
      ·rw[gs];simp[iP,p9,G5,bt,I.cells]
   ·have k8:k=l.length:=gf;have bl:decide ((k:Int)<(l.length:Int))=false:=dA;repeat' first|(refine ae ?_;simp only[go_sem,bl])|refine ai ?_|fail
    have AS:acc=U:=by rw[V,k8,qD];rfl
    have FU:s=Bs:=by rw[jg,k8,qD];rfl
    rw[<-AS,<-FU];exact⟨M,gf,⟨rfl,rfl⟩,a7.symm⟩
  refine A8 [6] (U.map bt) (v:=U.length+1) (lc:=U.length) (i:=G.length) (s:=7) (cs:=aV bt U) (by intro t ag;simp only[dH]at ag;subst ag;rw[dq];simp only[go_sem]) mZ gf rfl (λe he=>by(obtain⟨x, -,rfl⟩:=bP.1 he;rfl)) ?_
  simp only[go_sem,dO,jm];obtain⟨BO,CA⟩:∃BO:ab,BO=.gone::M:=⟨_,rfl⟩;rw[<-CA];have eF:=eu.1;have aB5:IntKind.i64.wrap ((d.m.log.entries.length:Int)+(U.length:Int))=(d.m.log.entries.length:Int)+(U.length:Int):=bS;by_cases MC:(200:Int)<(d.m.log.entries.length:Int)+(U.length:Int)
  ·have h2:decide ((200:Int)<(d.m.log.entries.length:Int)+(U.length:Int))=true:=dr MC;rw[aC MC]at Z;subst Z;repeat' first|(refine ae ?_;simp only[go_sem,bd,aS,aY,a6,bb,b3,bI,bc,aB5,h2])|refine bp ?_|(refine bz ?_ ?_<;>intro h<;>try exact bx h)|fail
   exact uX K rfl K.own.symm
  have h2:decide ((200:Int)<(d.m.log.entries.length:Int)+(U.length:Int))=false:=b0 MC;rw[ar MC]at Z;have FC:∀o∈U,hR o:=λo aD=>by
   rw[lI]at aD;rcases L9 _ _ _ o aD with h|h
   ·cases h
   ·exact pj o h
  repeat' first|(refine ae ?_;simp only[go_sem,bd,aS,aY,a6,bb,b3,bI,bc,aB5,h2])|refine ai ?_|fail
  refine n8 (ι:=cB×ab) (λ_=>[(0,.ref i 0 0),(5,.int .i64 Bs),(6,.sl false<|U.map bt)]) (λs=>gC G i j c s.1++s.2) (λs=>mR d U=(0,s.1)) ?_ fun⟨S,M2⟩ CF=>?_
  ·refine c7 (ι:=Nat×cB×ab) (λs=>[(0,.ref i 0 0),(5,.int .i64 Bs),(6,.sl false<|U.map bt),(72,.sl false<|U.map bt),(73,.int .i64 U.length),(74,.int .i64 s.1)]) (λs=>gC G i j c s.2.1++s.2.2)
    (λs=>s.1<=U.length/\mR d U=mR s.2.1 (U.drop s.1)/\OD d s.2.1 s.1) (λs=>U.length-s.1) (0,d,BO) ⟨cb _,rfl,⟨hs,eu.1,by have:=eu.2;simp only;omega,bh _⟩⟩ ?_ (by rw[K.own]) ?_
   ·simp[go_sem]
   rintro⟨k,S,M2⟩ ⟨hk,T,CF⟩;simp only at hk T CF ⊢;obtain⟨fS,lF⟩:∃fS,gC G i j c S++M2=fS:=⟨_,rfl⟩;have vN:gL i j c S fS:=lF▸(K.put S).app M2;have p7:∀d2,gC fS i j c d2=gC G i j c d2++M2:=λd2=>by rw[<-lF,(K.put S).pV,K.sq]
   rw[lF];by_cases O:k<U.length
   ·have ju:=ir O;rw[ju,mR]at T;have cA:=ek bt O;have Se:=FC _<|fQ O;obtain⟨o,aD⟩:∃o,o=U[k]:=⟨_,rfl⟩;rw[<-aD]at T cA Se;simp only[bt]at cA;have bl:decide ((k:Int)<(U.length:Int))=true:=cS;have hw:=eb O gf
    have nY:=CF.ops;repeat' first|(refine ae ?_;simp only[go_sem,cA,bl,O])|refine ai ?_|fail
    refine c4 (Zw (vN.app _) CF.br (o:=o) Se gf) aI ?_;rintro v H' ⟨rfl,rfl⟩;rw[vN.pV,p7];have nv:=aMR CF gf Se;obtain⟨⟨x,d1⟩,nZ⟩:∃r,oj S o=r:=⟨_,rfl⟩;rw[nZ]at T nv ⊢;simp only[go_sem]at T nv ⊢;by_cases J:x=0
    ·subst J;rw[aC rfl]at T;repeat' first|(refine ae ?_;simp only[go_sem])|refine ai ?_|fail
     exact⟨(k+1,d1,M2++[.cells 0 (bt o).cells]),⟨O,T,nv⟩,by simp only;omega,b7 _ hw,by simp[bt,I.cells]⟩
    ·have hd:decide (x=0)=false:=b0 J;rw[ar J]at T;rw[T,ar J]at Z;subst Z;repeat' first|(refine ae ?_;simp only[go_sem,hd])|refine bp ?_|(refine bz ?_ ?_<;>intro h<;>try exact bx h)|fail
     exact uX K rfl rfl
   ·have k8:k=U.length:=gf;have bl:decide ((k:Int)<(U.length:Int))=false:=dA;repeat' first|(refine ae ?_;simp only[go_sem,bl])|refine ai ?_|fail
    rw[k8,qD,mR]at T;exact⟨(S,M2),T,lF.symm⟩
  simp only at CF;rw[CF]at Z;simp only[dW]at Z;have aYA:=Ia G i j c S;obtain⟨cO,eN⟩:∃cO,gC G i j c S=cO:=⟨_,rfl⟩;have e9:gL i j c S cO:=eN▸K.put S;have AI:cO.length=G.length:=by rw[<-eN,Ia]
  have p7:∀d2,gC cO i j c d2=gC G i j c d2:=λd2=>by rw[<-eN,K.sq]
  simp only;rw[eN];have bd:=e9.aW;have aS:=bE e9.aW trivial;have aY:=bE e9.bA trivial;have aT:=e9.ne;have cM:=e9.eV;have cH:=e9.fF;have a6:=e9.a6;have bb:=e9.bb;have b3:=AI;simp only[fN]at bd aS;have bI:=od cM cH aT AI;subst Z;repeat' first|(refine ae ?_;simp only[go_sem,bd,aS,aY,a6,bb,b3,bI,bc])|refine bp ?_|(refine bz ?_ ?_<;>intro h<;>try exact bx h)|fail
  refine uX K rfl ?_;rw[<-p7];exact e9.one (d':={S with a:={S.a with n:=U.length},m:={S.m with seen:=Bs}}) rfl
theorem aQX(d:TypeDesc):iV d []=True:=b1 λ_ h=>p2 h
theorem aQW(d:TypeDesc)(p:I×I×Nat)(es:List (I×I×Nat)):iV d (p::es)=(kd d p.1=true/\iV d es):=propext List.forall_mem_cons
theorem aQU(k l:IntKind)(a b:Int):iW (.int k a) (.int l b)=decide (a=b):=rfl
def DN:List (I×I×Nat):=[(.int .i64 1,.func (.func 265) [] [],0),(.int .i64 2,.func (.func 265) [] [],1),(.int .i64 3,.func (.func 266) [] [],2),(.int .i64 4,.func (.func 267) [] [],3),(.int .i64 5,.func (.func 268) [] [],4),(.int .i64 6,.func (.func 269) [] [],5),(.int .i64 7,.func (.func 270) [] [],6),(.int .i64 8,.func (.func 271) [] [],7),(.int .i64 9,.func (.func 272) [] [],8),(.int .i64 10,.func (.func 273) [] [],9),(.int .i64 11,.func (.func 274) [] [],10),(.int .i64 12,.func (.func 275) [] [],11),(.int .i64 13,.func (.func 276) [] [],12)]
def Oj(k:Int):FuncId:=if k=1\/k=2 then 265 else if k=3 then 266 else if k=4 then 267 else if k=5 then 268 else if k=6 then 269
 else if k=7 then 270 else if k=8 then 271 else if k=9 then 272 else if k=10 then 273 else if k=11 then 274 else if k=12 then 275 else 276
theorem aSK(n:Nat):ed n (.map DN 13):=λp ad=>by simp only[DN,db,mh,mj]at ad;rcases ad with rfl|rfl|rfl|rfl|rfl|rfl|rfl|rfl|rfl|rfl|rfl|rfl|rfl;all_goals exact⟨.int _ _,.func _ _ _ (λ_ _ h=>by simp at h) λ_ _ h=>by simp at h⟩
theorem aCq(h:fJ m):oo m where
 nodes:=oC h.nodes.len
 c8:=oC h.cap
 ops:=λe he=>Ez<|h.nS.ok e.op (bP.2 ⟨e,he,rfl⟩)
 dh:=oC h.dh
 cq:=oC h.cq
 snap:=λs hs=>oC<|(h.snap s hs).len
 b2:=λw hw=>oC<|(h.watch w hw).2.1
theorem Nx{q:Int}{l:List aH}(h:rH q l):rI l:=λn af=>oC<|(h.dg n af).name
theorem aRm(h:fJ m)(hd:fJ d.m):UH m.log.nodes d where
 Ub:=h.nodes.lA.wf
 Uc:=hd.nodes.lA.wf
 aDb:=Nx h.nodes
 aDc:=Nx hd.nodes
 len:=oC h.nodes.len
 dir:=λw hw=>(hd.watch w hw).1
def Fj(r:di×om×List bk):I:=.aN [lf false false false false r.1,Cl false false r.2.1,.sl false<|r.2.2.map bt]
theorem aSr(f1 f2 f3 f4:Bool)(m:di):eT (lf f1 f2 f3 f4 m) (lf false false false false m):=
 .agg _ _ rfl (de (.sl _ _)<|de (.sl _ _) (de (.refl _) (de (.refl _) (de (.sl _ _) (de (.sl _ _) (de (.refl _) kZ))))))
theorem aSq(f1 f2:Bool)(a:om):eT (Cl f1 f2 a) (Cl false false a):=
 .agg _ _ rfl (de (.refl _)<|de (.refl _) (de (.sl _ _) (de (.refl _) (de (.sl _ _) kZ))))
theorem aC9(f1 f2 f3 f4 g1 g2 h1:Bool)(m:di)(a:om)(o:List bk):eT (.aN [lf f1 f2 f3 f4 m,Cl g1 g2 a,.sl h1<|o.map bt]) (Fj (m,a,o)):=
 .aN _ _ rfl (de (aSr _ _ _ _ _)<|de (aSq _ _ _) (de (.sl _ _) kZ))
theorem aMY(n:Nat)(f g:Bool)(a:om):cN n (Cl f g a):=(b9.agg _ λx J=>by
 simp only[db,mh,mj]at J;rcases J with rfl|rfl|rfl|rfl|rfl
 ·exact .int _ _
 ·exact .str _
 ·exact .sl _ _ λx J=>by(obtain⟨y, -,rfl⟩:=bP.1 J;exact .str _)
 ·exact .int _ _
 ·exact .sl _ _ λx J=>by(obtain⟨y, -,rfl⟩:=bP.1 J;simp only[dt,go_sem])).cl n
theorem aAk{n v lc:Nat}(m:di)(a:om)(o:List bk)(af:n<=i)(J:az H i=.cells v (aV bt o))(hk:o.length=k):cJ n H (.aN [lf false false false false m,Cl false false a,.osl 7 i v 0 k lc]) (Fj (m,a,o)):=
 .aN _ _ rfl (ds (.cl _ ((b9.cl mZ) n))<|ds (.cl _ (aMY n false false a)) (ds (Ct af J hk (λ_=>rfl) (λx=>mZ)) fx))
def J3:List cK:=[.bW [],.ah 1,.ah 1,.ah 0,.aQ,.aQ,.aQ,.aQ,.aQ]
def J4:List cK:=[.aQ,.ah 0,.ah 0,.ah 0,.aQ,.ah 0,.ah 0,.ah 0,.aQ,.ah 0,.ah 0,.ah 0,.bW [true,true,true,true,true,true],.bW [true,true,true],.aQ]
attribute [go_sem] J3 J4
theorem aNa(r:Int)(H:ab):aO prog 15 [.int .i64 r] H (.aN [lf false false false false (og r).1,.int .i64 (og r).2]):=by
 refine bg func15 ?_;unfold og;by_cases h1:r<0
 ·have d1:decide (r<0)=true:=dr h1;rw[ar gf];refine hH ?_;exact aX<|.aN _ _ rfl (de (.agg _ _ rfl (de (.sl _ _) (de (.sl _ _) (de (.refl _) (de (.refl _) (de (.sl _ _) (de (.sl _ _) (de (.refl _) kZ)))))))) (de (.refl _) kZ))
 have d1:decide (r<0)=false:=b0 h1;by_cases h2:63<r
 ·have d2:decide (63<r)=true:=dr h2;rw[ar gf];refine hH ?_;exact aX<|.aN _ _ rfl (de (.agg _ _ rfl (de (.sl _ _) (de (.sl _ _) (de (.refl _) (de (.refl _) (de (.sl _ _) (de (.sl _ _) (de (.refl _) kZ)))))))) (de (.refl _) kZ))
 have d2:decide (63<r)=false:=b0 h2;rw[aC gf];refine hH ?_;exact aX<|.aN _ _ rfl (de (.agg _ _ rfl (de (.sl _ _) (de (.sl _ _) (de (.refl _) (de (.refl _) (de (.sl _ _) (de (.sl _ _) (de (.refl _) kZ)))))))) (de (.refl _) kZ))
theorem aSO(H:ab):cV prog 232 [] H (λv H'=>v=.map H.length/\H'=H++[.map DN 13]):=by
 refine uf func232 ?_;repeat' first|(refine ae ?_;simp only[go_sem,hG,qS,eJ,aQU,aQX,aQW,kd,vn,DV,Hh,Int.reduceEq,jb])|refine ai ?_|fail
 exact⟨_,[],_,(cE _).symm,hW,G1 λb J=>by(rw[dH]at J;subst J;exact aSK _),.cl _<|.map _ hW,rfl,rfl⟩
theorem aSL(hk:kY c=true):(∃n,eJ (.int .i64 c.kind) DN=some (n,.func (.func<|Oj c.kind) [] []))/\jr prog (Oj c.kind)=true:=by
 rcases Q4 hk with e|e|e|e|e|e|e|e|e|e|e|e|e<;>rw[e]
 ·exact⟨⟨_,rfl⟩,aI⟩
 ·exact⟨⟨_,rfl⟩,aI⟩
 ·exact⟨⟨_,rfl⟩,aI⟩
 ·exact⟨⟨_,rfl⟩,aI⟩
 ·exact⟨⟨_,rfl⟩,aI⟩
 ·exact⟨⟨_,rfl⟩,aI⟩
 ·exact⟨⟨_,rfl⟩,aI⟩
 ·exact⟨⟨_,rfl⟩,aI⟩
 ·exact⟨⟨_,rfl⟩,aI⟩
 ·exact⟨⟨_,rfl⟩,aI⟩
 ·exact⟨⟨_,rfl⟩,aI⟩
 ·exact⟨⟨_,rfl⟩,aI⟩
 ·exact⟨⟨_,rfl⟩,aI⟩
theorem aSM(h:fJ m)(U:o3 c)(hk:kY c=true)(J:gL i j c ⟨m,dD,[]⟩ G):rP prog (Oj c.kind) i j c (jD c ⟨m,dD,[]⟩) G:=by
 have hs:oo (cB.m ⟨m,dD,[]⟩):=aCq h;have hl:(cB.ops ⟨m,dD,[]⟩).length<=1000000:=cb _;have K:∀l,qe m c.n=some l->rI l:=λl hl=>by
  unfold qe at hl;split at hl
  ·cases hl;exact Nx h.nodes
  ·obtain⟨s,O,rfl⟩:=gA.1 hl;exact Nx<|h.snap s (sD O)
 rcases Q4 hk with e|e|e|e|e|e|e|e|e|e|e|e|e;all_goals(unfold jD;rw[e])
 ·exact ZW J hs U hl
 ·exact ZW J hs U hl
 ·exact aMh J hs U hl
 ·exact aMH J hs U K
 ·exact aMI J hs U hl
 ·exact aLC J hs U hl
 ·exact aM3 J hs U K
 ·exact aNK J hs
 ·exact aNA J hs
 ·exact aNO J hs U
 ·exact aNI J hs
 ·exact aNL J
 ·exact aNF J hs U (cb _) ⟨h.cap,by have:=h.nodes.len;simp only;omega⟩
theorem aM4(f1 f2 f3 f4:Bool)(m:di)(h:fJ m)(c:cg)(V:o3 c)(H:ab):aO prog 206 [lf f1 f2 f3 f4 m,cy c] H (Fj<|eM m c):=by
 refine bg func206 ?_;have iy:=nB [(4,J3),(12,J4)];have Z:=Ld c V.path V.to;simp only[cy]at Z;unfold eM;cases hk:kY c with
 |false=>rw[hk]at Z;rw[aC rfl];refine bL (hj lf.eq_1<|hj tr.eq_1 cy.eq_1) ?_;exact aX<|aC9 f1 f2 f3 f4 true true true m (Fq 180) []
 |true=>
  rw[hk]at Z;rw[ar hW];repeat' first|(refine ae ?_;simp only[go_sem,lf,tr,cy])|refine bp ?_|fail
  refine kA rfl (λh=>p2 h) λ_=>?_;refine HQ ?_;simp only[go_sem];have hm:=h;obtain⟨Ef,z⟩:∃X:List I,X=[.sl f1 (m.log.entries.map dT),.sl f2<|m.log.nodes.map bj,.int .i64 m.seen,.int .i64 m.rep,.sl f3<|m.dh.map jj,.sl f4<|m.cq.map dY,.int .i64 m.next]:=⟨_,rfl⟩;obtain⟨UI,RA⟩:∃X:List I,X=[.sl true [],.sl true [],.int .i64 0,.int .i64 0,.sl true [],.sl true [],.int .i64 0]:=⟨_,rfl⟩;obtain⟨UJ,RB⟩:∃X:List I,X=[.int .i64 0,.str [],.sl true [],.int .i64 0,.sl true []]:=⟨_,rfl⟩;obtain⟨rF,S⟩:∃D:List I,D=[.sl f1 (m.log.entries.map dT),.sl f2<|m.log.nodes.map bj,.int .i64 m.seen,.int .i64 m.rep,.sl f3<|m.dh.map jj,.sl f4<|m.cq.map dY,.int .i64 m.next,.int .i64 0,.str [],.sl true [],.int .i64 0,.sl true [],.int .i64 c.kind,.str c.path,.str c.to,.str c.data,.int .i64 c.n,.sl true []]:=⟨_,rfl⟩
  refine Al (ι:=Unit) (λ_=>[(2,.ref H.length 0 0),(3,.ref (H.length+1) 0 0),(4,.ref (H.length+2) 0 0),(5,.ref (H.length+3) 0 0),(6,.sl true []),(7,.ref (H.length+4) 0 0)])
   (λ_=>H++[.cells 0 Ef,.cells 0 [.int .i64 c.kind,.str c.path,.str c.to,.str c.data,.int .i64 c.n],.cells 0 UI,.cells 0 UJ,.cells 0 rF]) (λ_=>True) ?_ λ_ _=>?_
  ·rw[z,RA,RB,S];repeat' first|(refine ae ?_;simp only[go_sem])|refine ai ?_|fail
   exact⟨(),trivial⟩
  refine uM (H.length+4) 17 7 (cs:=rF) (v:=0) mZ (by rw[S];rfl) ?_
  refine Lu (H.length+4) (fN (H.length+5) c ⟨m,dD,[]⟩) (v:=0) (cs:=rF.set 17<|.osl 7 (H.length+5) 1 0 0 0) mZ (by rw[S];rfl) ?_ ?_
  ·rw[S];unfold fN;repeat' first|exact kZ|refine de ?_ ?_|exact .refl _|exact .sl _ _
  simp only[go_sem];obtain⟨⟨aYQ,uA⟩,J⟩:=aSL hk;have U:iV (.int .i64) DN=True:=b1 (by intro p ad;simp only[DN,db,mh,mj]at ad;rcases ad with rfl|rfl|rfl|rfl|rfl|rfl|rfl|rfl|rfl|rfl|rfl|rfl|rfl<;>rfl)
  obtain⟨T,K⟩:∃T,Oj c.kind=T:=⟨_,rfl⟩;rw[K]at uA J;obtain⟨aDF,Rk⟩:∃C:List I,C=[.int .i64 c.kind,.str c.path,.str c.to,.str c.data,.int .i64 c.n]:=⟨_,rfl⟩;have hw:∀{i j:Nat} {G:ab},gL i j c ⟨m,dD,[]⟩ G->rP prog T i j c (jD c ⟨m,dD,[]⟩) G:=λaa=>K▸aSM hm V hk aa;obtain⟨⟨e,d1⟩,aw⟩:∃r,jD c ⟨m,dD,[]⟩=r:=⟨_,rfl⟩;rw[aw]at hw ⊢;refine Al (ι:=Unit) (λ_=>[(2,.ref H.length 0 0),(3,.ref (H.length+1) 0 0),(4,.ref (H.length+2) 0 0),(5,.ref (H.length+3) 0 0),(6,.sl true []),(7,.ref (H.length+4) 0 0),(8,.func (.func T) [] []),(9,.bool true)])
   (λ_=>H++[.cells 0 Ef,.cells 0 aDF,.cells 0 UI,.cells 0 UJ,.cells 0<|fN (H.length+5) c ⟨m,dD,[]⟩,.cells 1 [],.map DN 13]) (λ_=>True) ?_ λ_ _=>?_
  ·repeat' first|((first|refine mx [4] J3 ?_|refine mx [12] J4 ?_|refine ae ?_);simp only[go_sem])|refine ai ?_|fail
   refine qj (aSO _) aI ?_;simp only[go_sem,uA,U];repeat' first|(refine ae ?_;simp only[go_sem,uA,U])|refine ai ?_|fail
   first|exact⟨(),trivial,⟨rfl,rfl,rfl,rfl,rfl,rfl,rfl,rfl⟩,by rw[Rk]⟩|(refine⟨(),?_⟩;rw[Rk];done)|(refine⟨(),?_⟩;rw[Rk];rfl)|fail "Z"
  repeat' first|(refine ae ?_;simp only[go_sem])|refine ai ?_|fail
  refine c4 (hw (i:=H.length+4) (j:=H.length+5) ⟨gf,mZ,by simp only[go_sem];rfl⟩) J ?_
  rintro v H' ⟨rfl,rfl⟩;unfold gC;simp only[go_sem];by_cases he:e=0
  ·subst he;rw[aC rfl];have p1:fJ d1.m:=by
    have:=Q0 hm hk<|by rw[aw]
    rwa[aw]at this
   have hlen:(if d1.ops=[]then(d1.m,d1.a,[])else((Ap m.log.nodes d1).m,d1.a,d1.ops))=if d1.ops=[]then(d1.m,d1.a,([]:List bk))else((Ap m.log.nodes d1).m,d1.a,d1.ops):=rfl
   by_cases O:d1.ops=[]
   ·have xJ:d1.ops.length=0:=by rw[O];rfl
    rw[aC O];repeat' first|((first|refine mx [4] J3 ?_|refine mx [12] J4 ?_|refine ae ?_);simp only[go_sem,z,RA,RB,fN,xJ,Int.reduceLT])|refine ai ?_|fail
    exact⟨_,Fj (d1.m,d1.a,[]),rfl,aAk d1.m d1.a [] gf (by simp only[go_sem];rw[O]) rfl,rfl⟩
   ·have xJ:decide ((0:Int)<(d1.ops.length:Int))=true:=dr (oC<|nH.2 O)
    rw[ar O];refine bL fN.eq_1 ?_;refine c4 (aNM (i:=H.length+4) (j:=H.length+5) (c:=c) (d:=d1) ⟨gf,by simp only[go_sem,fN],mZ⟩ (aCq p1) f2 m.log.nodes<|aRm hm p1) aI ?_
    rintro v H' ⟨rfl,rfl⟩;unfold gC;simp only[go_sem,fN];repeat' first|((first|refine mx [4] J3 ?_|refine mx [12] J4 ?_|refine ae ?_);simp only[go_sem,z,RA,RB,fN])|refine ai ?_|fail
    exact⟨_,Fj ((Ap m.log.nodes d1).m,d1.a,d1.ops),rfl,aAk (Ap m.log.nodes d1).m d1.a d1.ops gf (by simp only[go_sem];rfl) rfl,rfl⟩
  ·have hd:decide (e=0)=false:=b0 he;rw[ar he];refine hH ?_;exact aX<|aC9 f1 f2 f3 f4 true true true m (Fq e) []
theorem aMl(c:cg)(ad:c.path.length<=1048576)(H:ab):
  aO prog 236 [cy c] H (if fZ c=false/\hB c=true then .aN [.sl false ((hQ c).map I.str),.bool true]else .aN [.sl true [],.bool false]):=by
 refine bg func236 ?_;have hw:=Qv c ad;have K:=Oe false (hQ c) (oC<|OW c)
 unfold Ch at hw;cases J:fZ c with
 |true=>
  rw[J,aC rfl]at hw;rw[ar (λh=>p2 h.1)];simp only[cy]at hw;repeat' first|(refine ae ?_;simp only[go_sem,cy])|refine ai ?_|fail
  exact aX<|.refl _
 |false=>
  rw[J,ar λh=>p2 h]at hw;cases U:hB c with
  |true=>
   rw[U,aC rfl]at hw;rw[aC ⟨rfl,rfl⟩];simp only[cy]at hw;repeat' first|(refine ae ?_;simp only[go_sem,cy])|refine ai ?_|fail
   exact aX<|.refl _
  |false=>
   rw[U,ar λh=>p2 h]at hw;rw[ar (λh=>p2 h.2)];simp only[cy]at hw;repeat' first|(refine ae ?_;simp only[go_sem,cy])|refine ai ?_|fail
   exact aX<|.refl _
end Go.Proofs.YtnmamncmpklliaaGreatDoor

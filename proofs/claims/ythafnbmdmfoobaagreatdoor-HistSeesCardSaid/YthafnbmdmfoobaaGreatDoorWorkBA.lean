/- What the functions of this seat answer (27 of 40). No condition. -/
import Derived.Test.YthafnbmdmfoobaaGreatDoorWorkAZ
set_option linter.unusedSimpArgs false
set_option linter.unusedVariables false
set_option maxRecDepth 100000
set_option maxHeartbeats 16000000
namespace Go.Proofs.YthafnbmdmfoobaaGreatDoor
section
def sM(ps:List (Bool×List dS)):List I:=ps.map fun p=>.sl p.1 (p.2.map ct)
def g5(ps:List (Bool×List dS))(i:Nat):List dS:=(ps.take i).flatMap (·.2)
theorem Li{ps:List (Bool×List dS)}{i:Nat}(h:i<ps.length):g5 ps (i+1)=g5 ps i++ps[i].2:=by
 unfold g5;rw[eB h,List.flatMap_append,List.flatMap_singleton]
theorem aEX(ps:List (Bool×List dS))(i:Nat):(g5 ps i).length<=(g5 ps ps.length).length:=by
 unfold g5;rw[eQ];conv=>rhs;rw[<-jf i ps,List.flatMap_append,bt]
 omega
def IT:I:=.agg [.int .i64 0,.str []]
theorem aBY(n:Nat):(List.flatMap I.cells (List.replicate n IT)).length=n * 2:=by
 induction n with
 |zero=>rfl
 |succ n ay=>rw[Ba,qe,bt,ay];simp[IT,I.cells];omega
theorem S1{ps:List (Bool×List dS)}{i:Nat}(h:i<ps.length):(sM ps).getD i .top=.sl ps[i].1 (ps[i].2.map ct):=by simp[sM,h]
theorem aGx(l:List dS):List.flatMap I.cells (l.map ct)=jn l:=rfl
theorem YS(a b:List dS):jn (a++b)=jn a++jn b:=by simp[jn]
theorem aGy(l:List dS):(jn l).all I.one=true:=by
 rw[gT];intro x J;unfold jn at J;rw[rZ]at J;obtain⟨y,aG,J⟩:=J;obtain⟨t, -,rfl⟩:=bP.1 aG;simp only[ct,I.cells,c7,jB,jD]at J;rcases J with rfl|rfl<;>rfl
theorem RF(l:List dS):(∀e∈l.map ct,e.cells.length=2)=True:=bJ fun e he=>by
 obtain⟨x,_,rfl⟩:=bP.1 he;rfl
def Qz:List cR:=[.pure 0,.pure 0,.free,.free,.free,.pure 0,.free,.free,.pure 0,.free,.eff [false,false,false,false]]
def QA:List cR:=[.pure 0,.pure 0,.free,.pure 0,.free,.pure 0,.pure 0,.pure 0,.free,.pure 0,.pure 0,.free,.free,.pure 0,.free,.pure 0,.eff [false,true,true,true,false,false,false,false,false,false],.free]
attribute [go_sem] Qz QA
theorem Ml(f:Bool)(ps:List (Bool×List dS))(ae:ps.length<=1073741824)(hl:(g5 ps ps.length).length<=4294967296)(H:ab):
  aY Tryz.prog 149 [.sl f (sM ps)] H (.sl false ((g5 ps ps.length).map ct)):=by
 refine bh Tryz.func149 ?_;have hle:=aEX ps;have hlen:(sM ps).length=ps.length:=by simp[sM]
 refine bW ?_;refine jY (ι:=Unit) (fun _=>[(0,.sl f (sM ps)),(3,.int .i64 (g5 ps ps.length).length)]) (fun _=>H) (fun _=>True) ?_ fun _ _=>?_
 ·refine b5 (ι:=Nat) (fun i=>[(0,.sl f (sM ps)),(3,.int .i64 (g5 ps i).length),(9,.sl f (sM ps)),(10,.int .i64 ps.length),(11,.int .i64 i)]) (fun _=>H) (fun i=>i<=ps.length) (fun i=>ps.length-i) 0 (bG _) ?_ rfl ?_
  ·simp[go_sem,g5]
  intro i hi;by_cases bS:i<ps.length
  ·have cG:=S1 bS;have h1:=hle (i+1);rw[Li bS,bt]at h1;have hw:IntKind.i64.wrap (((g5 ps i).length:Int)+(ps[i].2.length:Int))=((g5 ps (i+1)).length:Int):=by rw[cB,Li bS,bt];omega
   refine bW ?_;exact⟨i+1,bS,by omega,rfl,bH _ (dW bS (by omega))⟩
  ·have fx:i=ps.length:=by omega
   subst fx;repeat' first|(refine ad ?_;simp only[go_sem])|refine af ?_|fail
   exact⟨(),trivial⟩
 obtain⟨n,ag⟩:∃n,n=(g5 ps ps.length).length:=⟨_,rfl⟩;rw[<-ag];rw[<-ag]at hl hle;have CZ:=aBY n;have a2:IT=.agg [.int .i64 0,.str []]:=rfl;repeat' first|(refine ad ?_;simp only[go_sem,hlen,<-a2,CZ])|refine af ?_|fail
 obtain⟨Z,Ja⟩:∃Z,Z=List.flatMap I.cells (List.replicate n IT):=⟨_,rfl⟩;rw[<-Ja]at CZ ⊢;refine b5 (ι:=Nat) (fun i=>[(3,.int .i64 (g5 ps i).length),(6,.osl 2 H.length 1 0 n n),(22,.sl f (sM ps)),(23,.int .i64 ps.length),(24,.int .i64 i)]) (fun i=>H++[.cells 1 (jn (g5 ps i)++Z.drop ((g5 ps i).length * 2))]) (fun i=>i<=ps.length) (fun i=>ps.length-i) 0 (bG _) ?_ ?_ ?_
 ·simp[go_sem,g5]
 ·simp[g5,jn]
 intro i hi;by_cases bS:i<ps.length
 ·have cG:=S1 bS;have h1:=hle (i+1);have hs:=Li bS;rw[hs,bt]at h1;have hw:IntKind.i64.wrap (((g5 ps i).length:Int)+(ps[i].2.length:Int))=((g5 ps (i+1)).length:Int):=by rw[cB,hs,bt];omega
  have gE:(jn (g5 ps i)).length=(g5 ps i).length * 2:=LM _;have z9:(jn ps[i].2).length=ps[i].2.length * 2:=LM _;have dK:dw (jn (g5 ps i)++Z.drop ((g5 ps i).length * 2)) ((g5 ps i).length * 2) (jn ps[i].2)=jn (g5 ps (i+1))++Z.drop ((g5 ps (i+1)).length * 2):=by
   rw[m0 gE,z9,Bg,hs,YS,bt,cr,n1]
  repeat' first|(refine ad ?_;simp only[go_sem,bS,cG,hlen,hw,aGx,dK,gE,z9,aGy,RF,gL,CZ])|refine af ?_|fail
  exact⟨i+1,bS,by omega,⟨rfl,bH _ (dW bS (by omega))⟩,rfl⟩
 ·have fx:i=ps.length:=by omega
  subst fx;repeat' first|(refine ad ?_;simp only[go_sem,bS])|refine af ?_|fail
  exact p3 (cs:=jn (g5 ps ps.length)++Z.drop ((g5 ps ps.length).length * 2)) (es:=(g5 ps ps.length).map ct) (rest:=Z.drop ((g5 ps ps.length).length * 2)) (bk _) (by simp only[go_sem]) rfl (by rw[cP,ag]) (fun e he=>by obtain⟨x,_,rfl⟩:=bP.1 he;rfl) (fun e he=>by obtain⟨x,_,rfl⟩:=bP.1 he;exact(by simp only[go_sem])) rfl
theorem TN(f o:Bool)(e:List dS)(he:e.length<=1073741824)(u:Nat)(H:ab)(hu:ao H u=.cells 0 [.sl f (e.map ct),.bool o]):aY Tryz.prog 150 [.ref u 0 0] H (.int .i64 ((8-e.length:Nat):Int)):=by
 refine bh Tryz.func150 ?_;have hw:max (IntKind.i64.wrap (8-(e.length:Int))) 0=((8-e.length:Nat):Int):=by rw[cB];omega
 refine bW ?_;exact bC (.refl _)
theorem Mm(f f1:Bool)(a:List dS)(aD:a.length<=1073741824)(H:ab):aY Tryz.prog 149 [.sl f [.sl f1 (a.map ct)]] H (.sl false (a.map ct)):=by
 have h1:=Ml f [(f1,a)] (by simp) (by simp[g5];omega) H
 simpa[sM,g5]using h1
theorem aGz(f f1 f2:Bool)(a b:List dS)(aD:a.length<=1073741824)(aa:b.length<=1073741824)(H:ab):aY Tryz.prog 149 [.sl f [.sl f1 (a.map ct),.sl f2 (b.map ct)]] H (.sl false ((a++b).map ct)):=by
 have h1:=Ml f [(f1,a),(f2,b)] (by simp) (by simp[g5];omega) H
 simpa[sM,g5]using h1
theorem aGA(f f1 f2 f3:Bool)(a b c:List dS)(aD:a.length<=1073741824)(aa:b.length<=1073741824)(al:c.length<=1073741824)(H:ab):aY Tryz.prog 149 [.sl f [.sl f1 (a.map ct),.sl f2 (b.map ct),.sl f3 (c.map ct)]] H (.sl false ((a++b++c).map ct)):=by
 have h1:=Ml f [(f1,a),(f2,b),(f3,c)] (by simp) (by simp[g5];omega) H
 simpa[sM,g5]using h1
theorem aGB(f f2 o:Bool)(e l:List dS)(he:e.length<=1073741824)(hl:l.length<=1073741824)(H:ab):aY Tryz.prog 102 [.agg [.sl f (e.map ct),.bool o],.sl f2 (l.map ct)] H (.agg [.sl false ((po e o l).1.map ct),.bool (po e o l).2]):=by
 refine bh Tryz.func102 ?_;have kv:=mT [(7,Qz)];cases o with
 |true=>
  have h1:=Mm true f e he;unfold po;repeat' first|(refine ad ?_;simp only[go_sem])|refine af ?_|fail
  exact bo (.refl _)
 |false=>
  have ae:po e false l=if 8-e.length<l.length then(e++l.take (8-e.length)++[⟨9,[]⟩],true)else(e++l,false):=rfl
  have h3:=aGA true f true true e (l.take (8-e.length)) [⟨9,[]⟩] he (by rw[e8];omega) (by simp)
  have h2:=aGz true f f2 e l he hl;have aj:List.take (8-e.length) (List.map ct l)=List.map ct (l.take (8-e.length)):=rX.symm;by_cases hs:8-e.length<l.length
  ·rw[ae,aF hs];have cz:8-e.length<=l.length:=by omega
   repeat' first|(refine ad ?_;simp only[go_sem])|refine af ?_|fail
   refine qy (TN f false e he H.length _ (by simp only[go_sem])) (aA) ?_
   rintro v H' ⟨rfl,rfl⟩;simp only[go_sem];refine bW ?_;exact bo (.refl _)
  ·rw[ae,az hs];repeat' first|(refine ad ?_;simp only[go_sem])|refine af ?_|fail
   refine qy (TN f false e he H.length _ (by simp only[go_sem])) (aA) ?_
   rintro v H' ⟨rfl,rfl⟩;simp only[go_sem];refine bW ?_;exact bo (.refl _)
theorem aEY(f o:Bool)(e:List dS)(n:Int)(he:e.length<=1073741824)(H:ab):aY Tryz.prog 142 [.agg [.sl f (e.map ct),.bool o],.int .i64 n] H (.a0 [.agg [.sl false ((e.drop (min n.toNat e.length)).map ct),.bool o],.sl false ((e.take (min n.toNat e.length)).map ct)]):=by
 refine bh Tryz.func142 ?_;obtain⟨k,hk⟩:∃k,k=min n.toNat e.length:=⟨_,rfl⟩;have eb:min (max n 0) (e.length:Int)=(k:Int):=by omega
 have g3:k<=e.length:=by omega
 have h1:=Mm true f (e.drop k) (by rw[gL];omega)
 have h2:=Mm true true (e.take k) (by rw[e8];omega)
 have t1:List.take k (List.map ct e)=List.map ct (e.take k):=rX.symm;have t2:List.drop k (List.map ct e)=List.map ct (e.drop k):=y1.symm;rw[<-hk];repeat' first|((first|refine mx [2] QA ?_|refine ad ?_);simp only[go_sem,eb,g3,t1,t2,RF])|refine af ?_|fail
 exact bo (.refl _)
end
section
structure j9 (F:FuncId) (H:ab) (bV:List dS) (l:List eZ) (G:ab):Prop where
 e:q2 H.length bV G
 c:ao G (H.length+2)=.cells 0 [.func (.func F) [] [.ref H.length 0 0]]
 sR:ao G (H.length+4)=.cells 0 [.map (H.length+3)]
 pre:∃M,G=H++M
 m:∃es cl,ao G (H.length+3)=.map es cl∧vN l es
theorem j9.app{F:FuncId}{H:ab}{bV:List dS}{l:List eZ}{G:ab}(k:j9 F H bV l G)(L:ab):j9 F H bV l (G++L):=
 ⟨k.e.app L,bQ k.c trivial L,bQ k.sR trivial L,let⟨M,e⟩:=k.pre;⟨M++L,by rw[e,cr]⟩,let⟨es,cl,ar,au⟩:=k.m;⟨es,cl,bQ ar trivial L,au⟩⟩
theorem j9.set{F:FuncId}{H:ab}{bV:List dS}{l:List eZ}{G:ab}(k:j9 F H bV l G){i:Nat}(hi:H.length+4<i)(X:bu):j9 F H bV l (ai G i X):=
 ⟨k.e.set (by omega) X,bM k.c (by omega) X,bM k.sR (by omega) X,mb k.pre (by omega) X,let⟨es,cl,ar,au⟩:=k.m;⟨es,cl,bM ar (by omega) X,au⟩⟩
theorem j9.Pq{F:FuncId}{H:ab}{bV:List dS}{l g6:List eZ}{G:ab}(k:j9 F H bV l G){es:List (I×I×Nat)}(he:vN g6 es)(cl:Nat):j9 F H bV g6 (ai G (H.length+3) (.map es cl)):=
 ⟨k.e.set (by omega) _,bM k.c (by omega) _,bM k.sR (by omega) _,mb k.pre (by omega) _,⟨es,cl,dT (by have:=c8 k.sR trivial;omega) _,he⟩⟩
theorem j9.bb{F:FuncId}{H:ab}{bV:List dS}{l:List eZ}{G:ab}(k:j9 F H bV l G)(es:List dS):j9 F H es l (pM G H.length es):=
 ⟨q2.put k.e.lt es,H4 es k.c (by omega) (by omega),H4 es k.sR (by omega) (by omega),by unfold pM;exact mb (mb k.pre (by omega) _) (bk _) _,let⟨xs,cl,ar,au⟩:=k.m;⟨xs,cl,H4 es ar (by omega) (by omega),au⟩⟩
theorem IB{l:List eZ}{i:Nat}(h:i<l.length):(l.map dY).getD i .top=dY l[i]:=by simp[h]
theorem aGC(aV bm:Bool)(cu dC:List aB)(dir:Int)(ca:kL cu)(bT:kL dC)(hd:dy dir=true)(cH:cu.length<=1073741824)(cO:dC.length<=1073741824)(JA:r6 cu)(rq:r6 dC)(H:ab):
  aY Tryz.prog 103 [.sl aV (cu.map aW),.sl bm (dC.map aW),.int .i64 dir] H (.sl false ((vZ (nN cu dir) (nN dC dir)).map ct)):=by
 refine bh Tryz.func103 ?_;have i1:=T2 aV cu dir ca hd cH JA;have i2:=T2 bm dC dir bT hd cO rq;obtain⟨b4,OO⟩:∃x,x=nN cu dir:=⟨_,rfl⟩;obtain⟨is,Oj⟩:∃x,x=nN dC dir:=⟨_,rfl⟩;have hlen:∀(l:List aB),kL l->l.length<=1073741824->(nN l dir).length<=1073741824:=fun l hw hl=>by
  unfold nN;split
  ·rename_i al;exact gU (M8 al hw (xV l dir) dir [] hd) hl
  ·exact bG _
 have Jy:b4.length<=1073741824:=by rw[OO];exact hlen cu ca cH
 have aH:is.length<=1073741824:=by rw[Oj];exact hlen dC bT cO
 rw[<-OO]at i1 ⊢;rw[<-Oj]at i2 ⊢;clear OO Oj;refine vr (ι:=Unit) (fun _=>[(0,.sl aV (cu.map aW)),(1,.sl bm (dC.map aW)),(2,.int .i64 dir)]) (fun _=>H) (fun _=>True) ?_ fun _ _=>?_
 ·repeat' first|(refine ad ?_;simp only[go_sem])|refine af ?_|fail
  exact⟨(),trivial⟩
 refine vr (ι:=Unit) (fun _=>[(7,.sl false (b4.map dY)),(8,.sl false (is.map dY))]) (fun _=>H) (fun _=>True) ?_ fun _ _=>?_
 ·have aH5:=i1;have aH6:=i2;repeat' first|(refine ad ?_;simp only[go_sem])|refine af ?_|fail
  exact⟨(),trivial⟩
 refine vr (ι:=Unit) (fun _=>[(7,.sl false (b4.map dY)),(8,.sl false (is.map dY)),(9,.ref H.length 0 0)]) (fun _=>H++[.cells 0 [.sl true []]]) (fun _=>True) ?_ fun _ _=>?_
 ·repeat' first|(refine ad ?_;simp only[go_sem])|refine af ?_|fail
  exact⟨(),trivial⟩
 refine Dm H.length 0 2 (by first|(simp only[go_sem];done)|(simp only[go_sem];rfl)) rfl ?_
 simp only[go_sem];repeat' first|(refine ad ?_;simp only[go_sem])|refine af ?_|fail
 -- what is there now, by its path
 refine jY (ι:=ab) (fun _=>[(7,.sl false (b4.map dY)),(8,.sl false (is.map dY)),(9,.ref H.length 0 0),(10,.ref (H.length+2) 0 0),(11,.ref (H.length+4) 0 0)]) (fun G=>G) (fun G=>j9 152 H [] is G) ?_ fun dd zM=>?_
 ·refine b5 (ι:=Nat×ab) (fun s=>[(7,.sl false (b4.map dY)),(8,.sl false (is.map dY)),(9,.ref H.length 0 0),(10,.ref (H.length+2) 0 0),(11,.ref (H.length+4) 0 0),(36,.sl false (is.map dY)),(37,.int .i64 is.length),(38,.int .i64 s.1)]) (fun s=>s.2) (fun s=>s.1<=is.length∧j9 152 H [] (is.take s.1) s.2) (fun s=>is.length-s.1) (0,_) ⟨bG _,?_⟩ ?_ rfl ?_
  ·exact⟨⟨by first|(simp only[go_sem];done)|(simp only[go_sem];rfl),by first|(simp only[go_sem];done)|(simp only[go_sem];rfl)⟩,by simp only[go_sem],by simp only[go_sem],⟨_,rfl⟩,⟨[],0,by simp only[go_sem],UP⟩⟩
  ·simp[go_sem]
  rintro⟨i,G⟩ ⟨hi,cD⟩;simp only at hi cD ⊢;by_cases bS:i<is.length
  ·obtain⟨es,cl,ar,he⟩:=cD.m;have a1:=bz ar trivial;have a4:=bz cD.sR trivial;have ee:=jI ar trivial;have k1:iy .string es=True:=bJ he.p6;have cG:=IB bS;have zW:=UQ he is[i] cl;rw[<-eB bS]at zW;repeat' first|(refine ad ?_;simp only[go_sem,bS,cG,dY,k1,a1,a4,ee])|refine af ?_|fail
   exact⟨(i+1,_),⟨bS,(cD.Pq zW _).app _⟩,by simp only;omega,bH _ (dW bS (by omega)),rfl⟩
  ·have fx:i=is.length:=by omega
   rw[fx,eQ]at cD;repeat' first|(refine ad ?_;simp only[go_sem,bS])|refine af ?_|fail
   exact⟨G,cD,rfl⟩
 repeat' first|((first|refine du (aHo _ _) ?_|refine ad ?_);simp only[go_sem])|refine af ?_|fail
 let E:Nat->List dS:=fun k=>((b4.drop k).reverse.filter (jW is)).map fun t=>⟨1,t.path⟩
 have I8:∀k,(E k).length<=b4.length:=fun k=>by
  have h1:=nX (jW is) (b4.drop k).reverse;simp only[E,cP,List.length_reverse,gL]at h1 ⊢;omega
 have Vq:∀i (h:i<b4.length),E i=E (i+1)++if jW is b4[i]=true then[⟨1,b4[i].path⟩]else[]:=fun i h=>by
  simp only[E];rw[eo h,List.reverse_cons,ld,n0];congr 1;by_cases aJ:jW is b4[i]=true
  ·simp[aJ]
  ·simp[aJ]
 have E5:E b4.length=[]:=by simp[E]
 have iU:H.length+4<dd.length:=c8 zM.sR trivial;refine jY (ι:=ab) (fun _=>[(7,.sl false (b4.map dY)),(8,.sl false (is.map dY)),(9,.ref H.length 0 0),(10,.ref (H.length+2) 0 0),(11,.ref (H.length+4) 0 0)]) (fun G=>G) (fun G=>j9 152 H (E 0) is G) ?_ fun cZ qp=>?_
 ·refine MQ [(7,.sl false (b4.map dY)),(8,.sl false (is.map dY)),(9,.ref H.length 0 0),(10,.ref (H.length+2) 0 0),(11,.ref (H.length+4) 0 0),(48,.func (.func 186) [] [.cptr [.sl false (b4.map dY)]])] (by simp[go_sem]) ?_
  refine PW rfl (aA) fun y fT o0=>?_
  have wz:fT.live:=by rw[o0];trivial
  refine(aGY false b4 y (fun k G=>j9 152 H (E k) is G∧ao G dd.length=fT) (fun i h G hC=>?_) (by omega) _ ⟨by rw[E5];exact zM.app _,rf dd _⟩).mono fun _ H' h=>?_
  ·obtain⟨cD,E9⟩:=hC;refine LA E9 o0 rfl rfl rfl rfl fun lg fin nB yf gC iI=>?_
   have f3:=bz E9 wz;have ch:=jI E9 wz;simp only[xM];refine qn rfl ?_;simp only[go_sem,f3,ch,dY];have Wg:∀X,ai (ai G dd.length X) dd.length fT=G:=fun X=>by rw[iQ,kr E9 wz]
   obtain⟨fS,jq⟩:∃fS,ai G dd.length lg=fS:=⟨_,rfl⟩;have nD:=c8 E9 wz;have hlen:G.length=fS.length:=by rw[<-jq];simp[ai]
   have mI:j9 152 H (E (i+1)) is fS:=by rw[<-jq];exact cD.set iU lg
   have dO:ao fS dd.length=lg:=by rw[<-jq];exact dT nD lg
   rw[jq,hlen];clear o0 nB iI;obtain⟨es,cl,ar,he⟩:=mI.m;have ei:=bz dO yf;have a1:=bz ar trivial;have a4:=bz mI.sR trivial;have rc:=bz mI.c trivial;have k1:iy .string es=True:=bJ he.p6;have hsz:=I8 (i+1);have na:jW is b4[i]=true->∀Y,ug dd.length lg fin fS (fun v dt=>v=.bool true∧j9 152 H (E i) is dt∧ao dt dd.length=fT) true none (pM (fS++Y) H.length (E (i+1)++[⟨1,b4[i].path⟩])):=fun aJ Y=>by
    rw[aHn mI.e.lt];refine⟨bQ (H4 _ dO (by omega) (by omega)) yf _,_,Y,rfl,Ih _ _ _,TM _ (by omega),rfl,?_,?_⟩
    ·rw[Vq i h,aF aJ,gC];exact(mI.bb _).set iU _
    ·rw[gC];exact dT (by rw[Ih,<-hlen];exact nD) _
   have bX:jW is b4[i]=false->∀Y,ug dd.length lg fin fS (fun v dt=>v=.bool true∧j9 152 H (E i) is dt∧ao dt dd.length=fT) true none (fS++Y):=fun aJ Y=>by
    refine⟨ei _,fS,Y,rfl,rfl,fun _ _ h=>.inl h,rfl,?_,?_⟩
    ·rw[Vq i h,az (by rw[aJ];simp),b2,gC]
     exact mI.set iU _
    ·rw[gC];exact dT (by rw[<-hlen];exact nD) _
   cases hk:wV b4[i].path is with
   |none=>
    have m6:=he.no hk;have aJ:jW is b4[i]=true:=by unfold jW;rw[hk]
    repeat' first|(refine ad ?_;simp only[go_sem,m6,k1,a1,a4,rc,ei])|refine af ?_|fail
    refine qy (EH 1 b4[i].path (E (i+1)) H.length (by omega) _ (mI.e.app _)) (aA) ?_
    rintro v H' ⟨rfl,rfl⟩;simp only[go_sem];repeat' first|(refine ad ?_;simp only[go_sem])|refine af ?_|fail
    exact na aJ _
   |some x=>
    obtain⟨j,m6⟩:=he.yes hk;by_cases J:x.id=b4[i].id
    ·have aJ:jW is b4[i]=false:=by unfold jW;rw[hk];simp[J]
     repeat' first|(refine ad ?_;simp only[go_sem,m6,k1,a1,a4,rc,ei,dY,J])|refine af ?_|fail
     exact bX aJ _
    ·have aJ:jW is b4[i]=true:=by unfold jW;rw[hk];simp[J]
     repeat' first|(refine ad ?_;simp only[go_sem,m6,k1,a1,a4,rc,ei,dY,J])|refine af ?_|fail
     refine qy (EH 1 b4[i].path (E (i+1)) H.length (by omega) _ (mI.e.app _)) (aA) ?_
     rintro v H' ⟨rfl,rfl⟩;simp only[go_sem];repeat' first|(refine ad ?_;simp only[go_sem])|refine af ?_|fail
     exact na aJ _
  ·refine .inl ⟨.ready,by simp,h.2.trans o0,fun X=>?_⟩
   exact⟨_,h.1.set (by omega) X,by simp[go_sem],rfl⟩
 obtain⟨l1,k0,tX,Gb⟩:=qp.m;have C0:=qp.sR;repeat' first|(refine ad ?_;simp only[go_sem,tX,C0])|refine af ?_|fail
 have aIG:j9 152 H (E 0) [] (ai cZ (H.length+3) (.map [] k0)):=qp.Pq UP k0;generalize ai cZ (H.length+3) (.map [] k0)=G2' at *;clear qp tX C0 Gb
 -- what was there, by its path
 refine jY (ι:=ab) (fun _=>[(7,.sl false (b4.map dY)),(8,.sl false (is.map dY)),(9,.ref H.length 0 0),(10,.ref (H.length+2) 0 0),(11,.ref (H.length+4) 0 0)]) (fun G=>G) (fun G=>j9 152 H (E 0) b4 G) ?_ fun vM E3=>?_
 ·refine b5 (ι:=Nat×ab) (fun s=>[(7,.sl false (b4.map dY)),(8,.sl false (is.map dY)),(9,.ref H.length 0 0),(10,.ref (H.length+2) 0 0),(11,.ref (H.length+4) 0 0),(72,.sl false (b4.map dY)),(73,.int .i64 b4.length),(74,.int .i64 s.1)]) (fun s=>s.2) (fun s=>s.1<=b4.length∧j9 152 H (E 0) (b4.take s.1) s.2) (fun s=>b4.length-s.1) (0,_) ⟨bG _,aIG⟩ ?_ rfl ?_
  ·simp[go_sem]
  rintro⟨i,G⟩ ⟨hi,cD⟩;simp only at hi cD ⊢;by_cases bS:i<b4.length
  ·obtain⟨es,cl,ar,he⟩:=cD.m;have a1:=bz ar trivial;have a4:=bz cD.sR trivial;have ee:=jI ar trivial;have k1:iy .string es=True:=bJ he.p6;have cG:=IB bS;have zW:=UQ he b4[i] cl;rw[<-eB bS]at zW;repeat' first|(refine ad ?_;simp only[go_sem,bS,cG,dY,k1,a1,a4,ee])|refine af ?_|fail
   exact⟨(i+1,_),⟨bS,(cD.Pq zW _).app _⟩,by simp only;omega,bH _ (dW bS (by omega)),rfl⟩
  ·have fx:i=b4.length:=by omega
   rw[fx,eQ]at cD;repeat' first|(refine ad ?_;simp only[go_sem,bS])|refine af ?_|fail
   exact⟨G,cD,rfl⟩
 repeat' first|(refine ad ?_;simp only[go_sem])|refine af ?_|fail
 -- what came
 let jU:Nat->List dS:=fun k=>E 0++((is.take k).filter (jW b4)).map fun t=>⟨2,t.path⟩
 have Vp:∀k,(jU k).length<=b4.length+is.length:=fun k=>by
  have h1:=nX (jW b4) (is.take k);have h2:=I8 0;simp only[jU,bt,cP,e8]at h1 ⊢;omega
 have aIL:∀i (h:i<is.length),jU (i+1)=jU i++if jW b4 is[i]=true then[⟨2,is[i].path⟩]else[]:=fun i h=>by
  simp only[jU];rw[eB h,ld,n0,cr];congr 2;by_cases aJ:jW b4 is[i]=true
  ·simp[aJ]
  ·simp[aJ]
 have aIK:jU 0=E 0:=by simp[jU]
 refine jY (ι:=ab) (fun _=>[(7,.sl false (b4.map dY)),(8,.sl false (is.map dY)),(9,.ref H.length 0 0),(10,.ref (H.length+2) 0 0),(11,.ref (H.length+4) 0 0)]) (fun G=>G) (fun G=>j9 152 H (jU is.length) b4 G) ?_ fun xx aIH=>?_
 ·refine b5 (ι:=Nat×ab) (fun s=>[(7,.sl false (b4.map dY)),(8,.sl false (is.map dY)),(9,.ref H.length 0 0),(10,.ref (H.length+2) 0 0),(11,.ref (H.length+4) 0 0),(83,.sl false (is.map dY)),(84,.int .i64 is.length),(85,.int .i64 s.1)]) (fun s=>s.2) (fun s=>s.1<=is.length∧j9 152 H (jU s.1) b4 s.2) (fun s=>is.length-s.1) (0,_) ⟨bG _,by rw[aIK];exact E3⟩ ?_ rfl ?_
  ·simp[go_sem]
  rintro⟨i,G⟩ ⟨hi,cD⟩;simp only at hi cD ⊢;by_cases bS:i<is.length
  ·obtain⟨es,cl,ar,he⟩:=cD.m;have a1:=bz ar trivial;have a4:=bz cD.sR trivial;have rc:=bz cD.c trivial;have k1:iy .string es=True:=bJ he.p6;have cG:=IB bS;have hsz:=Vp i;have pZ:=aIL i bS;have qu:is.length-(i+1)<is.length-i:=by omega
   cases hk:wV is[i].path b4 with
   |none=>
    have m6:=he.no hk;have aJ:jW b4 is[i]=true:=by unfold jW;rw[hk]
    rw[aF aJ]at pZ;repeat' first|(refine ad ?_;simp only[go_sem,bS,cG,m6,k1,a1,a4,rc,dY])|refine af ?_|fail
    refine qy (EH 2 is[i].path (jU i) H.length (by omega) _ (cD.e.app _)) (aA) ?_
    rintro v H' ⟨rfl,rfl⟩;simp only[go_sem];repeat' first|(refine ad ?_;simp only[go_sem])|refine af ?_|fail
    exact⟨(i+1,_),⟨bS,by rw[pZ];exact(cD.app _).bb _⟩,qu,bH _ (dW bS (by omega)),rfl⟩
   |some x=>
    obtain⟨j,m6⟩:=he.yes hk;by_cases J:x.id=is[i].id
    ·have aJ:jW b4 is[i]=false:=by unfold jW;rw[hk];simp[J]
     rw[az (by rw[aJ];simp),b2]at pZ
     repeat' first|(refine ad ?_;simp only[go_sem,bS,cG,m6,k1,a1,a4,rc,dY,J])|refine af ?_|fail
     exact⟨(i+1,_),⟨bS,by rw[pZ];exact cD.app _⟩,qu,bH _ (dW bS (by omega)),rfl⟩
    ·have aJ:jW b4 is[i]=true:=by unfold jW;rw[hk];simp[J]
     rw[aF aJ]at pZ;repeat' first|(refine ad ?_;simp only[go_sem,bS,cG,m6,k1,a1,a4,rc,dY,J])|refine af ?_|fail
     refine qy (EH 2 is[i].path (jU i) H.length (by omega) _ (cD.e.app _)) (aA) ?_
     rintro v H' ⟨rfl,rfl⟩;simp only[go_sem];repeat' first|(refine ad ?_;simp only[go_sem])|refine af ?_|fail
     exact⟨(i+1,_),⟨bS,by rw[pZ];exact(cD.app _).bb _⟩,qu,bH _ (dW bS (by omega)),rfl⟩
  ·have fx:i=is.length:=by omega
   rw[fx]at cD;repeat' first|(refine ad ?_;simp only[go_sem,bS])|refine af ?_|fail
   exact⟨G,cD,rfl⟩
 repeat' first|(refine ad ?_;simp only[go_sem])|refine af ?_|fail
 -- what was written
 let lh:Nat->List dS:=fun k=>jU is.length++((is.take k).filter (n6 b4)).map fun t=>⟨3,t.path⟩
 have aIN:∀k,(lh k).length<=b4.length+2 * is.length:=fun k=>by
  have h1:=nX (n6 b4) (is.take k);have h2:=Vp is.length;have h3:(lh k).length=(jU is.length).length+((is.take k).filter (n6 b4)).length:=by simp only[lh,bt,cP]
  rw[e8]at h1;omega
 have aIO:∀i (h:i<is.length),lh (i+1)=lh i++if n6 b4 is[i]=true then[⟨3,is[i].path⟩]else[]:=fun i h=>by
  show jU is.length++(((is.take (i+1)).filter (n6 b4)).map fun t=>(⟨3,t.path⟩:dS))=(jU is.length++((is.take i).filter (n6 b4)).map fun t=>(⟨3,t.path⟩:dS))++_
  generalize jU is.length=z;rw[eB h,ld,n0,<-cr];congr 1;by_cases aJ:n6 b4 is[i]=true
  ·simp[aJ]
  ·simp[aJ]
 have aIM:lh 0=jU is.length:=by simp[lh]
 refine jY (ι:=ab) (fun _=>[(7,.sl false (b4.map dY)),(8,.sl false (is.map dY)),(9,.ref H.length 0 0),(10,.ref (H.length+2) 0 0),(11,.ref (H.length+4) 0 0)]) (fun G=>G) (fun G=>j9 152 H (lh is.length) b4 G) ?_ fun s6 NN=>?_
 ·refine b5 (ι:=Nat×ab) (fun s=>[(7,.sl false (b4.map dY)),(8,.sl false (is.map dY)),(9,.ref H.length 0 0),(10,.ref (H.length+2) 0 0),(11,.ref (H.length+4) 0 0),(110,.sl false (is.map dY)),(111,.int .i64 is.length),(112,.int .i64 s.1)]) (fun s=>s.2) (fun s=>s.1<=is.length∧j9 152 H (lh s.1) b4 s.2) (fun s=>is.length-s.1) (0,_) ⟨bG _,by rw[aIM];exact aIH⟩ ?_ rfl ?_
  ·simp[go_sem]
  rintro⟨i,G⟩ ⟨hi,cD⟩;simp only at hi cD ⊢;by_cases bS:i<is.length
  ·obtain⟨es,cl,ar,he⟩:=cD.m;have a1:=bz ar trivial;have a4:=bz cD.sR trivial;have rc:=bz cD.c trivial;have k1:iy .string es=True:=bJ he.p6;have cG:=IB bS;have hsz:=aIN i;have pZ:=aIO i bS;have qu:is.length-(i+1)<is.length-i:=by omega
   cases hk:wV is[i].path b4 with
   |none=>
    have m6:=he.no hk;have aJ:n6 b4 is[i]=false:=by unfold n6;rw[hk]
    rw[az (by rw[aJ];simp),b2]at pZ
    repeat' first|(refine ad ?_;simp only[go_sem,bS,cG,m6,k1,a1,a4,rc,dY])|refine af ?_|fail
    exact⟨(i+1,_),⟨bS,by rw[pZ];exact cD.app _⟩,qu,bH _ (dW bS (by omega)),rfl⟩
   |some x=>
    obtain⟨j,m6⟩:=he.yes hk;by_cases J:x.id=is[i].id
    ·by_cases aG:x.data=is[i].data
     ·have aJ:n6 b4 is[i]=false:=by unfold n6;rw[hk];simp[J,aG]
      rw[az (by rw[aJ];simp),b2]at pZ
      repeat' first|(refine ad ?_;simp only[go_sem,bS,cG,m6,k1,a1,a4,rc,dY,J,aG])|refine af ?_|fail
      exact⟨(i+1,_),⟨bS,by rw[pZ];exact cD.app _⟩,qu,bH _ (dW bS (by omega)),rfl⟩
     ·have aJ:n6 b4 is[i]=true:=by unfold n6;rw[hk];simp[J,aG]
      rw[aF aJ]at pZ;repeat' first|(refine ad ?_;simp only[go_sem,bS,cG,m6,k1,a1,a4,rc,dY,J,aG])|refine af ?_|fail
      refine qy (EH 3 is[i].path (lh i) H.length (by omega) _ (cD.e.app _)) (aA) ?_
      rintro v H' ⟨rfl,rfl⟩;simp only[go_sem];repeat' first|(refine ad ?_;simp only[go_sem])|refine af ?_|fail
      exact⟨(i+1,_),⟨bS,by rw[pZ];exact(cD.app _).bb _⟩,qu,bH _ (dW bS (by omega)),rfl⟩
    ·have aJ:n6 b4 is[i]=false:=by unfold n6;rw[hk];simp[J]
     rw[az (by rw[aJ];simp),b2]at pZ
     repeat' first|(refine ad ?_;simp only[go_sem,bS,cG,m6,k1,a1,a4,rc,dY,J])|refine af ?_|fail
     exact⟨(i+1,_),⟨bS,by rw[pZ];exact cD.app _⟩,qu,bH _ (dW bS (by omega)),rfl⟩
  ·have fx:i=is.length:=by omega
   rw[fx]at cD;repeat' first|(refine ad ?_;simp only[go_sem,bS])|refine af ?_|fail
   exact⟨G,cD,rfl⟩
 have eT:=NN.e.eT;have aV:=NN.e.aV;repeat' first|(refine ad ?_;simp only[go_sem,eT])|refine af ?_|fail
 obtain⟨L,hU⟩:=NN.pre;have oc:lh is.length=vZ b4 is:=by
  simp only[lh,jU,E,eQ,List.drop_zero];rfl
 rw[hU]at aV ⊢;rw[oc]at aV ⊢;exact p3 (cs:=jn (vZ b4 is)) (es:=(vZ b4 is).map ct) (rest:=[]) (by omega) aV (by rw[b2];rfl) (by simp) (fun e he=>by obtain⟨x,_,rfl⟩:=bP.1 he;rfl) (fun e he=>by obtain⟨x,_,rfl⟩:=bP.1 he;exact(by simp only[go_sem])) rfl
end
end Go.Proofs.YthafnbmdmfoobaaGreatDoor

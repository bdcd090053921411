/- What the functions of this seat answer (34 of 40). No condition. -/
import Derived.Test.YthafnbmdmfoobaaGreatDoorWorkBG
set_option linter.unusedSimpArgs false
set_option linter.unusedVariables false
set_option maxRecDepth 100000
set_option maxHeartbeats 16000000
namespace Go.Proofs.YthafnbmdmfoobaaGreatDoor
section
def F8:List cR:=[.pure 0,.pure 0,.pure 0,.pure 0,.pure 0,.pure 0,.pure 0,.eff [false,true,true,true,true,true,true],.free,.eff [true,true,true,true,true,true],.pure 0,.pure 0,.pure 0,.pure 0,.eff [false,true,true,true,false,false,false,false,false,false]]
def F9:List cR:=[.pure 0,.pure 0,.pure 0,.pure 0,.pure 0,.pure 0,.pure 0,.pure 0,.pure 0,.free,.pure 0,.pure 0,.eff [false,true,false,false,false,false,false,false,false,false,false]]
def Ga:List cR:=[.pure 0,.pure 0,.pure 0,.pure 0,.pure 0,.eff [false,true,true,true,false]]
def wY:List cR:=[.pure 0,.pure 0,.pure 0,.pure 0,.pure 0,.pure 0,.pure 0,.pure 0,.pure 0,.pure 0,.pure 0,.pure 0,.free,.free,.free,.eff [true,true,true,true,true,true,true,true,true,true,true,true],.eff [false,false,false,false,false,false,false,false,false,false,false,false],.free]
attribute [go_sem] F8 F9 Ga wY
theorem aEA(l:List iD)(p:iD->Bool)(i v lc n:Nat)(ag:n=l.length)(gE:n<=lc)(hl:n<=1073741824){fn:Fn}{fs cs:List I}(hx:ab->Prop)(wy:∀G b,hx G->hx (ai G i b))(tq:∀G L,hx G->hx (G++L))(H:ab)(ah:ao H i=.cells v (aI cq l))
  (an:∀x G,hx G->h6 Tryz.prog (.func fn fs cs) [cq x] G (fun r dt=>r=.bool (p x)∧dt=G)) (aJ:hx H):
  c5 Tryz.prog 45 [.osl 2 i v 0 n lc,.func fn fs cs] H (fun r H'=>∃rest,r=.osl 2 i v 0 (l.filter (fun x=> !p x)).length lc∧H'=ai H i (.cells v (aI cq (l.filter (fun x=> !p x))++rest))):=by
 refine eJ Tryz.func45 ?_;have fI:=S7 l p i v lc n ag gE hl H ah (fun x=>an x H aJ)
 have kA:=c8 ah trivial;have dF:=an;simp only[cq]at dF;by_cases h1:eg p l= -1
 ·rw[h1]at fI;repeat' first|((first|refine ea (fI) (aA) ?_|refine ep (fI) (aA) ?_|refine er (fun _=>fI) (aA) ?_|refine ad ?_);simp only[go_sem,ah,Int.reduceEq])|refine bx ?_|(refine bD ?_ ?_<;>intro h<;>try exact bB h)|fail
  refine⟨H,[],_,(b2 _).symm,rfl,fun k b hk=>.inl hk,.cl _ (.osl _ _ _ _ _ _ kA),[],?_,?_⟩
  ·rw[uQ h1,ag]
  ·rw[uQ h1,b2];exact(kr ah trivial).symm
 ·obtain⟨A,x,B,rfl,au,bd,bE⟩:=Gg h1;rw[au]at fI;have cf:n=A.length+(B.length+1):=by simp[ag]
  have hd:decide (((A.length:Nat):Int)= -1)=false:=cg;have hw:IntKind.i64.wrap ((A.length:Int)+1)=((A.length+1:Nat):Int):=by rw[cB];rfl
  repeat' first|((first|refine ea (fI) (aA) ?_|refine ep (fI) (aA) ?_|refine er (fun _=>fI) (aA) ?_|refine ad ?_);simp only[go_sem,ah,hd,hw])|refine bx ?_|(refine bD ?_ ?_<;>intro h<;>try exact bB h)|fail
  generalize hU:A++x::B=L at *;refine b5 (ι:=Nat×Nat×List iD×ab) (fun s=>[(0,.osl 2 i v 0 n lc),(1,.func fn fs cs),(5,.int .i64 s.1),(6,.int .i64 s.2.1)])
   (fun s=>ai H i (.cells v (aI cq s.2.2.1))++s.2.2.2) (fun s=>s.1<s.2.1∧s.2.1<=n∧s.2.2.1.length=n∧s.2.2.1.take s.1=(L.take s.2.1).filter (fun x=> !p x)∧s.2.2.1.drop s.2.1=L.drop s.2.1) (fun s=>n-s.2.1) (A.length,A.length+1,L,[])
   ⟨by simp,by simp only;omega,ag.symm,?_,rfl⟩ ?_ (by rw[b2];exact(kr ah trivial).symm) ?_
  ·simp only;rw[<-hU,s0,show A++x::B=(A++[x])++B by simp,show A.length+1=(A++[x]).length by simp,s0,ld,bE];simp[bd]
  ·simp[go_sem]
  ·rintro⟨k,j,E,M⟩ ⟨c4,dm,ee,dH,fD⟩;simp only at c4 dm ee dH fD ⊢;obtain⟨G,aT⟩:∃G,ai H i (.cells v (aI cq E))++M=G:=⟨_,rfl⟩;rw[aT];have cw:ao G i=.cells v (aI cq E):=by rw[<-aT];exact bQ (b:=.cells v (aI cq E)) (dT kA _) trivial M
   have aZ:=bz cw trivial;have a7:=jI cw trivial;have zJ:hx G:=by rw[<-aT];exact tq _ _ (wy _ _ aJ)
   have gs:∀X,ai G i X=ai H i X++M:=fun X=>by rw[<-aT,gW (by rw[aX];exact kA),iQ]
   have ga:(aI cq E).length=n * 2:=by rw[dE (s:=2) (fun _=>rfl),ee]
   by_cases aw:j<n
   ·have aH:decide ((j:Int)<(n:Int))=true:=b1;have kS:j<L.length:=by omega
    have wx:E[j]'(by omega)=L[j]:=by
     have a:=eo (l:=E) (i:=j) (by omega)
     have b:=eo kS;rw[fD,b]at a;exact(pr a).1.symm
    have od:=om (enc:=cq) (s:=2) (fun _=>rfl) (D:=E) (k:=j) (by omega)
    rw[wx]at od;simp only[cq,I.cells]at od;have ca:IntKind.i64.wrap ((j:Int)+1)=((j+1:Nat):Int):=by rw[cB];rfl
    have bT:IntKind.i64.wrap ((k:Int)+1)=((k+1:Nat):Int):=by rw[cB];rfl
    have fX:=w4 (enc:=cq) (s:=2) (fun _=>rfl) (D:=E) (k:=k) (by omega) L[j]
    simp only[cq,I.cells]at fX;have oU:L.take (j+1)=L.take j++[L[j]]:=eB kS;repeat' first|(refine ad ?_;simp only[go_sem,cw,aZ,aH,ga,od])|refine af ?_|fail
    refine sH (dF L[j] _ (tq _ _ zJ)) ?_;cases lH:p L[j]with
    |true=>
     simp only[go_sem];repeat' first|(refine ad ?_;simp only[go_sem])|refine bx ?_|(refine bD ?_ ?_<;>intro h<;>try exact bB h)|fail
     refine⟨(k,j+1,E,M++[.cells 0 (cq L[j]).cells]),⟨by simp only;omega,by simp only;omega,ee,?_,?_⟩,by simp only;omega,⟨rfl,bH _ ca⟩,?_⟩
     ·simp only;rw[oU,ld,<-dH,mX,az (by simp[lH])];simp
     ·simp only;have a:=eo (l:=E) (i:=j) (by omega)
      have b:=eo kS;rw[fD,b]at a;exact(pr a).2.symm
     ·show G++[.cells 0 (cq L[j]).cells]=_;rw[<-aT,cr]
    |false=>
     simp only[go_sem];repeat' first|(refine ad ?_;simp only[go_sem,cw,aZ,a7,ga,fX])|refine bx ?_|(refine bD ?_ ?_<;>intro h<;>try exact bB h)|fail
     refine⟨(k+1,j+1,E.set k L[j],M++[.cells 0 (cq L[j]).cells]),⟨by simp only;omega,by simp only;omega,by simp only[gj];exact ee,?_,?_⟩,by simp only;omega,⟨bH _ bT,bH _ ca⟩,?_⟩
     ·simp only;rw[oU,ld,<-dH,mX,aF (by simp[lH]),eB (by simp;omega),vE,DN (bk _)]
      rfl
     ·simp only;rw[Hp (by omega)]
      have a:=eo (l:=E) (i:=j) (by omega)
      have b:=eo kS;rw[fD,b]at a;exact(pr a).2.symm
     ·show ai G i (.cells v (aI cq (E.set k L[j])))++[.cells 0 (cq L[j]).cells]=_;rw[gs,cr]
   ·have lB:j=n:=by omega
    subst lB;have aH:decide ((j:Int)<(j:Int))=false:=by simp
    repeat' first|(refine ad ?_;simp only[go_sem,cw,aZ,a7,aH,ga])|refine af ?_|fail
    rw[ag,eQ]at dH;obtain⟨F,lA⟩:∃F,F=L.filter (fun x=> !p x):=⟨_,rfl⟩
    rw[<-lA]at dH ⊢;have hk:k=F.length:=by rw[<-dH,e8];omega
    have zN:=dE (enc:=cq) (s:=2) (fun _=>rfl) F
    have dK:∀Z:List I,∃rest,dw (aI cq E) (k * 2) Z=aI cq F++rest∧∀m,(∀x∈Z,cX m x)->∀x∈rest,cX m x:=fun Z=>by
     have e:=m0 (A:=aI cq F) (B:=aI cq (E.drop k)) (off:=k * 2) (X:=Z) (by rw[zN,hk])
     rw[<-iu,<-dH,jf]at e;rw[dH]at e;refine⟨Z++(aI cq (E.drop k)).drop Z.length,e,fun m a2 x J=>?_⟩
     rcases eX.1 J with J|J
     ·exact a2 x J
     ·exact(oX (fun x=>by simp only[go_sem]) (E.drop k) x (vG J)).cl m
    obtain⟨rest,ax,a2⟩:=dK (List.flatMap I.cells (List.replicate (j-k) (.agg [.int .i64 0,.int .i64 0])));rw[ax,gs];have zG:∀c,ao (ai H i (.cells v c)++M) i=.cells v c:=fun c=>bQ (b:=.cells v c) (dT kA _) trivial M
    simp only[zG];refine⟨⟨trivial,by omega,by omega⟩,?_⟩
    repeat' first|(refine ad ?_;simp only[go_sem])|refine af ?_|fail
    refine⟨_,M,_,rfl,by rw[aX],pI ?_,.cl _ (.osl _ _ _ _ _ _ kA),rest,by rw[hk],rfl⟩
    intro x J;rcases eX.1 J with J|J
    ·exact(oX (fun x=>by simp only[go_sem]) F x J).cl _
    ·refine a2 _ (fun x J=>?_) x J
     rw[rZ]at J;obtain⟨e,he,J⟩:=J;rw[y2]at he;obtain⟨-,rfl⟩:=he;simp only[I.cells,c7,jB,jD]at J;rcases J with rfl|rfl<;>first|exact .int _ _|exact .bool _|exact .str _|exact(bO.sl _ _ (fun _ h=>by cases h)).cl _
theorem YP{cs X Y:List I}{off:Nat}(hl:X.length=Y.length)(aN:off+X.length<=cs.length)(h:∀(i:Nat) (x y:I),X[i]?=some x->Y[i]?=some y->fY x y):∀(i:Nat) (x y:I),(dw cs off X)[i]?=some x->(dw cs off Y)[i]?=some y->fY x y:=fun i x y J aG=>by
 rw[H3 aN]at J;rw[H3 (by rw[<-hl];exact aN),<-hl]at aG
 split at J
 ·rename_i hi;rw[aF hi]at aG;exact h _ x y J aG
 ·rename_i hi;rw[az hi,J]at aG;cases aG;exact .refl x
theorem aBR{b i:Nat}{cs:List I}{n:Int}{G:ab}(h1:ao G b=.cells 0 [.ref i 0 0])(h2:ao G i=.cells 0 cs)(h3:cs.getD 14 .top=.int .i64 n)(h4:14<cs.length)(s:iD):aY Tryz.prog 44 [cq s,.ref b 0 0] G (.bool (decide (s.aR=n))):=by
 refine bh Tryz.func44 ?_;have aZ:=bz h1 trivial;have a7:=bz h2 trivial;refine b0 cq.eq_1 ?_;exact bo (.refl _)
theorem aCF{i j:Nat}{who:Nat}{u:eR}{x:bn}{G:ab}(aa:ha i j who u x G)(a2:r2 x){t:ba}(aj:x.aq[who]?=some t):q9 Tryz.prog 26 [.bool true] i j who u (mS true who x) G:=by
 refine eJ Tryz.func26 ?_;have kv:=mT [(3,F8),(4,F9),(5,Ga),(6,wY)];have hk:=(cA.1 aj).1;have a8:=aa.aV;have aU:=bz aa.aV trivial;have a3:=aa.bm;have lM:=bz aa.bm trivial;have a1:=aa.a1;have a4:=aa.a4;have eh:=aa.eh;have e6:=aa.e6;simp only[e7]at a8 aU eh e6;have bq:=sV aa.e3 aa.fR aa.ne;refine b0 @aX ?_;refine pJ (Sj false x.g.waits (by have:=a2.EX;omega) _) (aA) ?_
 have eM:=a8;have iJ:i<G.length:=aa.e3;simp only[go_sem,a8,aU,a3,a1,a4,eh,e6,lM,bq,aX];repeat' first|(refine ad ?_;simp only[go_sem,a8,aU,a3,a1,a4,eh,e6,lM,bq,aX])|refine af ?_|fail
 refine pJ ((aEA x.g.waits (fun w=>decide (w.aR=(who:Int))) (G.length+1) 1 x.g.waits.length x.g.waits.length rfl (bk _) (by have:=a2.EX;omega) (fun dt=>ao dt G.length=.cells 0 [.ref i 0 0]∧ao dt i=.cells 0 (e7 j who u x)) (fun dt b h=>⟨bM h.1 (by omega) b,bM h.2 (by omega) b⟩) (fun dt L h=>⟨bQ h.1 trivial L,bQ h.2 trivial L⟩) _
  (fn:=.func 44) (fs:=[]) (cs:=[.ref G.length 0 0]) (by simp only[go_sem]) (fun s dt aJ=>Or.inl ⟨aA,aBR aJ.1 aJ.2 rfl (by simp[e7]) s⟩) ⟨by simp only[go_sem],bQ aa.aV trivial _⟩).PD (by simp)) (aA) ?_
 obtain⟨W,hg⟩:∃W,W=x.g.waits.filter fun w=> !decide (w.aR=(who:Int)):=⟨_,rfl⟩
 rw[<-hg];simp only[go_sem,a8,aU,a3,a1,a4,eh,e6,lM,bq,aX];refine aC2 (v:=0) (vb:=1) (s:=2) (lc:=x.g.waits.length) (cs:=(e7 j who u x).set 10 (.osl 2 (G.length+1) 1 0 (W.map cq).length x.g.waits.length)) (bs:=aI cq W) i (G.length+1) 10 (W.map cq) [] (by omega) (by rw[cP];simp only[go_sem,a8,aU,a3,a1,a4,eh,e6,lM,bq,aX];rfl) rfl (by simp only[go_sem,a8,aU,a3,a1,a4,eh,e6,lM,bq,aX]) (by decide) (b2 _).symm (fun e he=>by(obtain⟨x, -,rfl⟩:=bP.1 he;rfl)) ?_
 have h1:=aa.one (x':={x with g:={x.g with waits:=W}}) rfl
 simp only[e7]at h1;simp only[e7,go_sem,a8,aU,a3,a1,a4,eh,e6,lM,bq,aX,h1];have gB:=(aa.put {x with g:={x.g with waits:=W}}).app [.cells 0 [.ref i 0 0],.gone]
 have cw:ao (e5 G i j who u {x with g:={x.g with waits:=W}}++[.cells 0 [.ref i 0 0],.gone]) G.length=.cells 0 [.ref i 0 0]:=by
  have:=yE G i j who u {x with g:={x.g with waits:=W}}
  rw[<-this];exact rf _ _
 obtain⟨dd,ek⟩:∃dd,e5 G i j who u {x with g:={x.g with waits:=W}}++[.cells 0 [.ref i 0 0],.gone]=dd:=⟨_,rfl⟩;rw[ek]at gB cw ⊢;have aV:=gB.aV;have bm:=gB.bm;have iE:=gB.fR;have g4:=dE (enc:=aR) (s:=18) (fun _=>rfl) x.aq
 have hV:(who * 18+18<=x.aq.length * 18)=True:=bJ (by omega)
 have gr:((0:Int)<=(who:Int)∧(who:Int)<(x.aq.length:Int))=True:=bJ ⟨by omega,by omega⟩
 simp only[e7]at aV bm;have UX:=fun v Y=>dT iE (.cells v Y)
 iterate 2 first|((first|refine mx [3] F8 ?_|refine mx [4] F9 ?_|refine mx [5] Ga ?_|refine mx [6] wY ?_|refine ad ?_);simp only[go_sem,aV,bm,UX,cw,g4,hV,gr])|refine af ?_|fail
 have p0:x.aq[who]=t:=(cA.1 aj).2;obtain⟨py,E8⟩:∃py,x.aq.set who {t with bp:={c2 with err:=120}}=py:=⟨_,rfl⟩;have cO:py.length=x.aq.length:=by rw[<-E8,gj]
 have o7:=sJ (enc:=aR) (s:=18) (f:=13) (X:=[.int .i64 120,.str [],.sl false [],.int .i64 0,.sl false []]) (fun _=>rfl) hk (by simp) {t with bp:={c2 with err:=120}} (by rw[p0];rfl)
 rw[E8]at o7;refine Dq (v:=1) (cs:=dw (aI aR x.aq) (who * 18+13) [.int .i64 120,.str [],.sl true [],.int .i64 0,.sl true []]) j (aI aR py) (UX _ _) ?_ ?_ ?_
 ·rw[<-o7,Eh (by rw[g4];simp;omega),Eh (by rw[g4];simp;omega)]
 ·rw[<-o7];exact YP rfl (by rw[g4];simp;omega) (dh (.refl _) (dh (.refl _) (dh (.sl _ _) (dh (.refl _) (dh (.sl _ _) mF)))))
 have kf:=gB.put {x with g:={x.g with waits:=W},aq:=py}
 rw[iQ,gB.aq cO];have a7:∀dZ,ao (e5 dd i j who u dZ) G.length=.cells 0 [.ref i 0 0]:=fun dZ=>by
  unfold e5;exact bM (bM cw (by have:=aa.fR;omega) _) (by omega) _
 have cc:=kf.aV;simp only[e7]at cc;repeat' first|((first|refine mx [3] F8 ?_|refine mx [4] F9 ?_|refine mx [5] Ga ?_|refine mx [6] wY ?_|refine ad ?_);simp only[go_sem,cc,a7])|refine af ?_|fail
 refine pJ (LD kf (by rw[cO];exact a2.n) who) aA ?_
 rw[gB.AW];have gZ:=(gB.put {x with g:={x.g with waits:=W},aq:=kF x.time py who}).aV
 have FC:(kF x.time py who).length=x.aq.length:=by unfold kF;rw[yT,cO]
 simp only[e7,FC]at gZ;simp only[go_sem,gZ,a7];repeat' first|(refine ad ?_;simp only[go_sem,gZ,a7])|refine af ?_|fail
 rw[<-ek,aa.next];refine pc aa ?_;unfold mS;rw[aF rfl,mr aj,E8,hg]
theorem aCG{i j:Nat}{who:Nat}{u:eR}{x:bn}{G:ab}(aa:ha i j who u x G)(a2:r2 x)(aN:x.ops.length<=1073741824):q9 Tryz.prog 26 [.bool false] i j who u (mS false who x) G:=by
 refine eJ Tryz.func26 ?_;have kv:=mT [(3,F8),(4,F9),(5,Ga),(6,wY)];have a8:=aa.aV;have aU:=bz aa.aV trivial;have a3:=aa.bm;have lM:=bz aa.bm trivial;have a1:=aa.a1;have a4:=aa.a4;have eh:=aa.eh;have e6:=aa.e6;simp only[e7]at a8 aU eh e6;have bq:=sV aa.e3 aa.fR aa.ne;have jZ:=aEv false x.g x.ops.length a2.EX;unfold mS;rw[az (by decide)]
 obtain⟨⟨t1,b7⟩,ax⟩:∃r,wa x.g x.ops.length=r:=⟨_,rfl⟩;have bL:b7.length<=1000000:=by
  have:=bH (fun r=>r.2.length) ax
  simp only[wa,cP]at this;rw[<-this];exact gU (nX ..) a2.EX
 rw[ax]at jZ ⊢;simp only[kN]at jZ;have h1:=aa.one (x':={x with g:=t1}) rfl
 simp only[e7]at h1;refine b0 @aX ?_;obtain⟨lk,Vu⟩:∃lk,[bu.cells 0 [.ref i 0 0],bu.cells 0 [.int .i64 t1.kept,.sl false (t1.waits.map cq)]]=lk:=⟨_,rfl⟩;obtain⟨X,ez⟩:∃X:Nat->bn,(fun q=>{x with g:=t1,aq:=(b7.take q).foldl (kF x.time) x.aq})=X:=⟨_,rfl⟩
 have aIZ:∀q,(X q).aq.length=x.aq.length:=fun q=>by rw[<-ez];exact Io _ _ _
 have aI0:∀q,(X q).time=x.time:=fun q=>by rw[<-ez]
 have cw:∀q,ao (e5 G i j who u (X q)++lk) G.length=.cells 0 [.ref i 0 0]:=fun q=>by rw[<-Vu];exact rB (yE ..)
 rw[Vu];refine b5 (ι:=Nat) (fun s=>[(2,.ref G.length 0 0),(63,.sl false (b7.map bj)),(64,.int .i64 b7.length),(65,.int .i64 s)]) (fun s=>e5 G i j who u (X s)++lk) (fun s=>s<=b7.length) (fun s=>b7.length-s) 0 (bG _) ?_ (by rw[<-ez];rfl) ?_
 ·simp[go_sem]
 rintro q aS;by_cases ak:q<b7.length
 ·have aH:decide ((q:Int)<(b7.length:Int))=true:=b1;have ae:=dg bj ak;have hw:=dW ak (by omega)
  have aZ:=cw q;simp only[bj]at ae;refine bW ?_;refine c6 (LD ((aa.put (X q)).app lk) (by rw[aIZ];exact a2.n) b7[q]) aA ?_
  rintro v H' ⟨rfl,rfl⟩;rw[aa.next];simp only[go_sem];refine aT ?_;refine⟨q+1,ak,by omega,bH _ hw,?_⟩
  rw[aI0,<-ez];simp only;rw[eB ak,s4];rfl
 ·have wI:q=b7.length:=by omega
  subst wI;have aH:decide ((b7.length:Int)<(b7.length:Int))=false:=by simp
  refine bW ?_;refine pc aa ?_;rw[<-ez];simp only[eQ]
end
section
def QL:List cR:=[.pure 0,.pure 0,.eff [false,true],.pure 1,.pure 1,.pure 1,.free,.free,.eff [true,true,true,true],.pure 0,.eff [false,false,false,false,false]]
attribute [go_sem] QL
theorem TV(f1 f2 f3 f4 f5 f6 f7 f8 f9:Bool)(x:bn):fY (e4 f1 f2 f3 f4 f5 f6 f7 f8 f9 x) (e4 false false false false false false false false false x):=by
 unfold e4 gu;refine .agg _ _ rfl ?_;repeat' first|exact mF|refine dh ?_ ?_|exact .refl _|exact .sl _ _
abbrev eY:bn->I:=e4 false false false false false false false false false
theorem TW(f1 f2 f3 f4 f5 f6 f7 f8 f9:Bool)(x:bn)(e:Int):fY (.a0 [e4 f1 f2 f3 f4 f5 f6 f7 f8 f9 x,.int .i64 e]) (.a0 [eY x,.int .i64 e]):=.a0 _ _ rfl (dh (TV ..) (dh (.refl _) mF))
theorem aEB(f1 f2 f3 f4 f5 f6 f7 f8 f9:Bool)(x:bn)(n e:Int):fY (.a0 [e4 f1 f2 f3 f4 f5 f6 f7 f8 f9 x,.int .i64 n,.int .i64 e]) (.a0 [eY x,.int .i64 n,.int .i64 e]):=.a0 _ _ rfl (dh (TV ..) (dh (.refl _) (dh (.refl _) mF)))
theorem Ru(b:Bool)(l:List ba)(hl:l.length<=1073741824)(H:ab):
  c5 Tryz.prog 24 [.sl b (l.map aR)] H (fun v H'=>v=.osl 18 H.length 1 0 l.length l.length∧H'=H++[.cells 1 (aI aR l)]):=by
 refine pD Tryz.func24 ?_;have eM:∀n,dp n (.cells 1 (aI aR l)):=fun n=>yN (fun x=>by simp only[go_sem]) n 1 l
 have fin:∀v H',v=.osl 18 H.length 1 0 l.length l.length->H'=H++[.cells 1 (aI aR l)]->∃H1 L y,H'=H1++L∧H.length<=H1.length∧(∀(i:Nat) (b:bu),H1[i]?=some b->H[i]?=some b∨dp H1.length b)∧cQ H1.length H' v y∧
   y=.osl 18 H.length 1 0 l.length l.length∧H1=H++[.cells 1 (aI aR l)]:=by
  rintro v H' rfl rfl;exact⟨_,[],_,(b2 _).symm,by simp,wT fun b aa=>by(rw[dA]at aa;subst aa;exact eM _),.cl _ (.osl _ _ _ _ _ _ (by simp)),rfl,rfl⟩
 have eu:List.flatMap I.cells (l.map aR)=aI aR l:=rfl;refine aT ?_;intro c al;cases c with
 |true=>
  have lZ:l=[]:=by
   cases l with
   |nil=>rfl
   |cons x l=>exact absurd (al (by simp)) (by decide)
  subst lZ;repeat' first|(refine ad ?_;simp only[go_sem])|refine bx ?_|fail
  refine ly rfl (fun _=>?_) (fun h=>by cases h)
  refine w6 ?_;refine qn rfl ?_;simp only[go_sem];refine sF 2 18 rfl ?_;repeat' first|(refine ad ?_;simp only[go_sem])|refine af ?_|fail
  exact fin _ _ rfl rfl
 |false=>
  clear al;have kP:(∀e∈l.map aR,e.cells.length=18)=True:=bJ fun e he=>by(obtain⟨x,_,rfl⟩:=bP.1 he;rfl)
  have kT:(l.length * 216<=140737488355328)=True:=bJ (by omega)
  repeat' first|(refine ad ?_;simp only[go_sem,kP,eu,kT,DK,true_or])|refine af ?_|fail
  exact fin _ _ rfl rfl
theorem HX(r:Int)(H:ab):aY Tryz.prog 9 [.int .i64 r] H (.a0 [eY (nR r).1,.int .i64 (nR r).2]):=by
 refine bh Tryz.func9 ?_;have hm:=Eg r;unfold nR;obtain⟨⟨m,e⟩,ax⟩:∃z,ng r=z:=⟨_,rfl⟩;rw[ax]at hm ⊢;simp only[dv,gf]at hm;by_cases he:e=0
 ·subst he;rw[aF rfl];repeat' first|(refine ad ?_;simp only[go_sem])|refine af ?_|fail
  exact bo (TW false false false false true true true true true {uO with m:=m} 0)
 ·have hd:decide (e=0)=false:=b8 he;rw[az he];refine bW ?_;exact bo (TW true true true true true true true true true uO e)
theorem TX{n:Nat}{H:ab}(f1 f2 f3 f4 f5 f6 f7 f9:Bool)(x:bn){t:I}(h:cQ n H t (.sl false (x.aq.map aR))):
  cQ n H (gu (.sl f1 (x.m.log.entries.map de)) (.sl f2 (x.m.log.nodes.map aW)) (.sl f3 (x.m.cj.map cU)) (.sl f4 (x.m.bN.map bU)) (.sl f5 (x.t.held.map a6)) (.sl f6 (x.t.waits.map a6)) (.sl f7 (x.g.waits.map cq)) t (.sl f9 (x.ops.map bY)) x) (eY x):=by
 refine .agg _ _ rfl ?_;repeat' first|exact gY|refine dV ?_ ?_|exact .cl _ (.int _ _)|exact h|exact fY.uR (.sl _ _) (by simp only[go_sem])
theorem GJ(f1 f2 f3 f4 f5 f6 f7 f8 f9:Bool)(x:bn)(c:b3)(ag:x.aq.length<=1000)(H:ab):aY Tryz.prog 12 [e4 f1 f2 f3 f4 f5 f6 f7 f8 f9 x,cJ c] H (.a0 [eY (mc x c).1,.int .i64 (mc x c).2.1,.int .i64 (mc x c).2.2]):=by
 refine bh Tryz.func12 ?_;have kv:=mT [(5,QL)];unfold mc;by_cases EZ:(40:Int)<=(x.aq.length:Int)
 ·have d:decide ((40:Int)<=(x.aq.length:Int))=true:=cF EZ;rw[aF EZ];refine b0 (hC e4.eq_1 (hC gu.eq_1 cJ.eq_1)) ?_;exact bo (aEB f1 f2 f3 f4 f5 f6 f7 f8 f9 x 0 193)
 ·have d:decide ((40:Int)<=(x.aq.length:Int))=false:=b8 EZ;rw[az EZ];refine b0 (hC e4.eq_1 (hC gu.eq_1 cJ.eq_1)) ?_;refine pJ (Ru f8 x.aq (by omega) _) (aA) ?_
  have eu:=dE (enc:=aR) (s:=18) (fun _=>rfl) x.aq
  simp only[go_sem,eu];repeat' first|(refine ad ?_;simp only[go_sem,eu])|refine af ?_|fail
  refine⟨⟨fun e he=>by rw[he];rfl,by omega⟩,?_⟩
  repeat' first|(refine ad ?_;simp only[go_sem,eu])|refine af ?_|fail
  refine⟨_,.a0 [eY {x with time:=IntKind.i64.wrap (x.time+1),aq:=x.aq++[{nU c with dJ:=IntKind.i64.wrap (x.time+1)}]},.int .i64 x.aq.length,.int .i64 0],rfl,.a0 _ _ rfl (dV (TX f1 f2 f3 f4 f5 f6 f7 f9 {x with time:=IntKind.i64.wrap (x.time+1),aq:=x.aq++[{nU c with dJ:=IntKind.i64.wrap (x.time+1)}]} ?_) (dV (.cl _ (.int _ _)) (dV (.cl _ (.int _ _)) gY))),rfl⟩
  refine S2 (by omega) (by simp only[go_sem];rfl) (by simp) (by simp only[bt,eu,cm,ew];omega) (fun _=>rfl) ?_
  rw[iu];refine Sf (oX (fun x=>by simp only[go_sem]) _) ?_
  repeat' first|exact gY|refine dV ?_ ?_|exact .cl _ (.int _ _)|exact .cl _ (.bool _)|exact .cl _ (.str _)|exact .GC _ _ ((bO.sl true [] (fun _ h=>by cases h)).cl _)
end
section
theorem aCH(f g o p:Bool)(e k:List dS)(H:ab):aY Tryz.prog 66 [.agg [.sl f (e.map ct),.bool o],.agg [.sl g (k.map ct),.bool p]] H (.bool (decide (e=k)&&decide (o=p))):=by
 refine bh Tryz.func66 ?_;have h1:=SN f g e k;cases hd:decide (e=k)with
 |true=>
  rw[hd]at h1;repeat' first|(refine ad ?_;simp only[go_sem])|refine af ?_|fail
  exact bo (.refl _)
 |false=>
  rw[hd]at h1;repeat' first|(refine ad ?_;simp only[go_sem])|refine af ?_|fail
  exact bo (.refl _)
theorem aAr(aV bm:Bool)(l m:List n4)(H:ab):aY Tryz.prog 37 [.sl aV (l.map cU),.sl bm (m.map cU)] H (.bool (decide (l=m))):=by
 refine nz fun bl _=>?_
 have hl:=lI bl;rw[cP]at hl;refine bh Tryz.func37 ?_;repeat' first|(refine ad ?_;simp only[go_sem])|refine bx ?_|(refine bD ?_ ?_<;>intro h<;>try exact bB h)|fail
 ·exact bC (.of (by rw[b8 (fun e=>by subst e;simp at h)]))
 ·have hlen:l.length=m.length:=by simp at h;omega
  refine b5 (ι:=Nat) (fun i=>[(0,.sl aV (l.map cU)),(1,.sl bm (m.map cU)),(5,.int .i64 i)]) (fun _=>H) (fun i=>i<=l.length∧l.take i=m.take i) (fun i=>l.length-i) 0 ⟨bG _,rfl⟩ ?_ rfl ?_
  ·simp[go_sem]
  ·rintro i ⟨hi,he⟩;by_cases ak:i<l.length
   ·have ae:=dg cU ak;have aS:=dg cU (show i<m.length by omega)
    obtain⟨x,J⟩:∃x,x=l[i]:=⟨_,rfl⟩;obtain⟨y,aG⟩:∃y,y=m[i]'(by omega):=⟨_,rfl⟩
    rw[<-J]at ae;rw[<-aG]at aS;have gb:i<m.length:=by omega
    have bX:x≠y->decide (l=m)=false:=fun aP=>b8 fun e=>aP (by subst e;rw[J,aG])
    have na:x=y->∃z:Nat,(z<=l.length∧l.take z=m.take z)∧l.length-z<l.length-i∧I.int .i64 (IntKind.i64.wrap ((i:Int)+1))=I.int .i64 z:=fun heq=>⟨i+1,⟨ak,by rw[eB ak,eB (by omega),he,<-J,<-aG,heq]⟩,by omega,by rw[cB];rfl⟩
    have eK:=SB false false x.nodes y.nodes;by_cases ar:x.nodes=y.nodes
    ·rw[cF ar]at eK;by_cases au:x.n=y.n
     ·have d2:decide (x.n=y.n)=true:=cF au;repeat' first|(refine ad ?_;simp only[go_sem,ae,aS,cU,ak,gb,d2])|refine af ?_|fail
      exact na (by cases x;cases y;simp_all)
     ·have d2:decide (x.n=y.n)=false:=b8 au;repeat' first|(refine ad ?_;simp only[go_sem,ae,aS,cU,ak,gb,d2])|refine af ?_|fail
      exact bC (.of (by rw[bX fun e=>au (by rw[e])]))
    ·rw[b8 ar]at eK;repeat' first|(refine ad ?_;simp only[go_sem,ae,aS,cU,ak,gb])|refine af ?_|fail
     exact bC (.of (by rw[bX fun e=>ar (by rw[e])]))
   ·have cv:i=l.length:=by omega
    subst cv;repeat' first|(refine ad ?_;simp only[go_sem])|refine af ?_|fail
    exact bC (.of (by rw[cF (by rw[eQ,hlen,eQ]at he;exact he)]))
theorem YQ(aV bm:Bool)(l m:List jV)(H:ab):aY Tryz.prog 38 [.sl aV (l.map bU),.sl bm (m.map bU)] H (.bool (decide (l=m))):=by
 refine nz fun bl _=>?_
 have hl:=lI bl;rw[cP]at hl;refine bh Tryz.func38 ?_;repeat' first|(refine ad ?_;simp only[go_sem])|refine bx ?_|(refine bD ?_ ?_<;>intro h<;>try exact bB h)|fail
 ·exact bC (.of (by rw[b8 (fun e=>by subst e;simp at h)]))
 ·have hlen:l.length=m.length:=by simp at h;omega
  refine b5 (ι:=Nat) (fun i=>[(0,.sl aV (l.map bU)),(1,.sl bm (m.map bU)),(5,.int .i64 i)]) (fun _=>H) (fun i=>i<=l.length∧l.take i=m.take i) (fun i=>l.length-i) 0 ⟨bG _,rfl⟩ ?_ rfl ?_
  ·simp[go_sem]
  ·rintro i ⟨hi,he⟩;by_cases ak:i<l.length
   ·have ae:=dg bU ak;have aS:=dg bU (show i<m.length by omega)
    obtain⟨x,J⟩:∃x,x=l[i]:=⟨_,rfl⟩;obtain⟨y,aG⟩:∃y,y=m[i]'(by omega):=⟨_,rfl⟩
    rw[<-J]at ae;rw[<-aG]at aS;have gb:i<m.length:=by omega
    have bX:x≠y->decide (l=m)=false:=fun aP=>b8 fun e=>aP (by subst e;rw[J,aG])
    have na:x=y->∃z:Nat,(z<=l.length∧l.take z=m.take z)∧l.length-z<l.length-i∧I.int .i64 (IntKind.i64.wrap ((i:Int)+1))=I.int .i64 z:=fun heq=>⟨i+1,⟨ak,by rw[eB ak,eB (by omega),he,<-J,<-aG,heq]⟩,by omega,by rw[cB];rfl⟩
    have eK:=aCH false false x.over y.over x.bV y.bV;by_cases ar:x.bV=y.bV∧x.over=y.over
    ·rw[cF ar.1,cF ar.2]at eK;by_cases au:x.n=y.n
     ·have d2:decide (x.n=y.n)=true:=cF au;by_cases bd:x.dir=y.dir
      ·have d3:decide (x.dir=y.dir)=true:=cF bd;repeat' first|(refine ad ?_;simp only[go_sem,ae,aS,bU,ak,gb,d2,d3,Bool.and_self])|refine af ?_|fail
       exact na (by cases x;cases y;simp_all)
      ·have d3:decide (x.dir=y.dir)=false:=b8 bd;repeat' first|(refine ad ?_;simp only[go_sem,ae,aS,bU,ak,gb,d2,d3,Bool.and_self])|refine af ?_|fail
       exact bC (.of (by rw[bX fun e=>bd (by rw[e])]))
     ·have d2:decide (x.n=y.n)=false:=b8 au;repeat' first|(refine ad ?_;simp only[go_sem,ae,aS,bU,ak,gb,d2,Bool.and_self])|refine af ?_|fail
      exact bC (.of (by rw[bX fun e=>au (by rw[e])]))
    ·have an:(decide (x.bV=y.bV)&&decide (x.over=y.over))=false:=by
      rw[vC];intro h;simp only[dD,hR]at h;exact ar h
     rw[an]at eK;repeat' first|(refine ad ?_;simp only[go_sem,ae,aS,bU,ak,gb])|refine af ?_|fail
     exact bC (.of (by rw[bX fun e=>ar (by rw[e];exact⟨rfl,rfl⟩)]))
   ·have cv:i=l.length:=by omega
    subst cv;repeat' first|(refine ad ?_;simp only[go_sem])|refine af ?_|fail
    exact bC (.of (by rw[cF (by rw[eQ,hlen,eQ]at he;exact he)]))
theorem Sk(f1 f2 f3 f4 aZ a7 ch fc:Bool)(m n:cb)(H:ab):aY Tryz.prog 17 [dv f1 f2 f3 f4 m,dv aZ a7 ch fc n] H (.bool (decide (m=n))):=by
 refine bh Tryz.func17 ?_;have h1:=aD1 f1 f2 aZ a7 m.log n.log;have h2:=aAr f3 ch m.cj n.cj;have h3:=YQ f4 fc m.bN n.bN;simp only[p7]at h1;have fi:decide (m=n)=(decide (m.log=n.log)&&decide (m.cj=n.cj)&&decide (m.bN=n.bN)&&decide (m.seen=n.seen)&&decide (m.rep=n.rep)&&decide (m.next=n.next)):=by
  cases m;cases n;rw[qh];simp;constructor<;>(intro h;simp_all)
 rw[fi];generalize decide (m.log=n.log)=cK at *;generalize decide (m.cj=n.cj)=dc at *;generalize decide (m.bN=n.bN)=ei at *;refine b0 (hC dv.eq_1 gf.eq_1) ?_;exact bo (.refl _)
end
section
theorem L7{c:b3}(h:pP c=false):jh c:=by
 unfold pP at h;simp only[xl,nm]at h;exact⟨by omega,by omega,by omega⟩
theorem aF0{l:List b3}{n:Int}(h:ud l n=true):(∀c∈l,jh c)∧(l.length:Int)<=n:=by
 unfold ud at h;simp only[dD,hR,gT,nk]at h;exact⟨fun c al=>L7 (h.1 c al),h.2⟩
end
section
theorem aEC(n:Nat)(aC:0<n)(ag:n<=1048576)(H:ab):c5 Tryz.prog 115 [.sl true [],.int .i64 n] H (fun v H'=>v=.osl 7 H.length 1 0 0 n∧∃cs,cs.length=n * 7∧H'=H++[.cells 1 cs]):=by
 refine uM Tryz.func115 ?_;have h1:decide ((n:Int)<0)=false:=cg;have h2:decide ((0:Int)<(n:Int))=true:=b1;have h3:IntKind.i64.wrap ((n:Int)-IntKind.i64.wrap 0)=n:=by rw[show IntKind.i64.wrap 0=0 from rfl,cB];omega
 have h4:(n * 72<=140737488355328)=True:=bJ (by omega)
 have cz:((0:Int)<(n:Int))=True:=bJ (by omega)
 have eK:IntKind.i64.wrap ((n:Int)-IntKind.i64.wrap (0-0))=n:=h3;repeat' first|(refine ad ?_;simp only[go_sem,h1,h2,h3,h4,cz,eK,j6,ew,Int.natCast_zero,hG,Int.toNat_zero,List.take_nil])|refine af ?_|fail
 refine⟨_,?_,rfl⟩;simp[List.flatMap_replicate,I.cells,List.length_flatten]
theorem aED(H:ab):aY Tryz.prog 115 [.sl true [],.int .i64 0] H (.sl true []):=by
 refine bh Tryz.func115 ?_;have h1:decide ((0:Int)<0)=false:=rfl;have h3:IntKind.i64.wrap ((0:Int)-IntKind.i64.wrap 0)=0:=rfl;have eK:IntKind.i64.wrap ((0:Int)-IntKind.i64.wrap (0-0))=0:=rfl;repeat' first|(refine ad ?_;simp only[go_sem,h1,h3,eK,j6,ew,Int.natCast_zero])|refine af ?_|fail
 exact bC (.refl _)
theorem Lj(l:List bf):∀e∈l.map bY,e.cells.length=7:=fun e he=>by(obtain⟨x, -,rfl⟩:=bP.1 he;rfl)
theorem L8(l:List bf):((l.map bY).flatMap I.cells).all I.one=true:=by
 induction l with
 |nil=>rfl
 |cons x l ay=>rw[dn,qe,List.all_append,ay];rfl
theorem HY{n i v k lc:Nat}{H:ab}{cs:List I}(D:List bf)(ag:n<=i)(ah:ao H i=.cells v cs)(al:cs=aI bY D)(hk:D.length=k):cQ n H (.osl 7 i v 0 k lc) (.sl false (D.map bY)):=
 sG (es:=D.map bY) (rest:=[]) ag ah (al.trans (b2 _).symm) (by rw[cP,hk]) (fun e he=>by(obtain⟨x, -,rfl⟩:=bP.1 he;rfl)) (fun e he=>by(obtain⟨x, -,rfl⟩:=bP.1 he;simp only[go_sem]))
theorem aAs(f f1 f2:Bool)(cu dC:List bf)(h2:cu.length<=100000)(h3:dC.length<=100000)(H:ab):
  aY Tryz.prog 82 [.sl f [.sl f1 (cu.map bY),.sl f2 (dC.map bY)]] H (.sl false ((cu++dC).map bY)):=by
 refine bh Tryz.func82 ?_;obtain⟨n,ag⟩:∃n,cu.length+dC.length=n:=⟨_,rfl⟩;have ca:IntKind.i64.wrap (0+(cu.length:Int))=(cu.length:Int):=by rw[cB];omega
 have bT:IntKind.i64.wrap ((cu.length:Int)+(dC.length:Int))=(n:Int):=by rw[cB];omega
 have yc:decide ((cu.length:Int)<0)=false:=cg;have Cs:decide ((n:Int)<0)=false:=cg;have iJ:IntKind.i64.wrap (0+1)=1:=rfl;have hV:IntKind.i64.wrap (1+1)=2:=rfl;repeat' first|(refine ad ?_;simp only[go_sem])|refine af ?_|fail
 refine tk 3 ?_;unfold qx;repeat' first|(refine ad ?_;simp only[go_sem,ca,yc,iJ,bT,Cs,hV,Int.reduceLT])|refine af ?_|fail
 have gC:(List.flatMap I.cells (cu.map bY)).length=cu.length * 7:=dE (enc:=bY) (s:=7) (fun _=>rfl) cu
 have iI:(List.flatMap I.cells (dC.map bY)).length=dC.length * 7:=dE (enc:=bY) (s:=7) (fun _=>rfl) dC
 by_cases u2:n=0
 ·have ar:cu=[]:=jg (by omega)
  have au:dC=[]:=jg (by omega)
  subst u2 ar au;have aJ:=aED;repeat' first|(refine ad ?_;simp only[go_sem,Int.natCast_zero])|refine af ?_|fail
  refine tk 3 ?_;unfold qx;repeat' first|(refine ad ?_;simp only[go_sem,iJ,hV,Int.reduceLT,im])|refine af ?_|fail
  exact⟨_,_,rfl,HY (v:=2) (cs:=[]) [] (bk _) (by simp only[go_sem]) rfl rfl,rfl⟩
 refine c6 (aEC n (by omega) (by omega) H) (aA) (fun v H' aL=>?_)
 obtain⟨rfl,cs,al,rfl⟩:=aL;have dP:((0:Nat)=n)=False:=uy (by omega)
 by_cases jA:cu=[]
 ·subst jA;have cO:dC.length=n:=by simpa using ag
  have aZ:dw cs 0 (List.flatMap I.cells (dC.map bY))=aI bY dC:=by
   have:=Gp (A:=[]) (B:=[]) (X:=List.flatMap I.cells (dC.map bY)) (C:=cs) (by rw[iI,al,cO])
   simpa[aI]using this
  have aQ:0<=cs.length:=bG _;simp only[go_sem];repeat' first|(refine ad ?_;simp only[go_sem,dP])|refine af ?_|fail
  refine tk 3 ?_;unfold qx;repeat' first|(refine ad ?_;simp only[go_sem,dP,iJ,hV,Int.reduceLT,im,DL,List.all_nil,aZ,al])|refine af ?_|fail
  refine⟨⟨by omega,by omega,Lj _,L8 _⟩,?_⟩
  repeat' first|(refine ad ?_;simp only[go_sem,hV,Int.reduceLT])|refine af ?_|fail
  refine⟨_,_,rfl,HY (v:=1) (cs:=aI bY dC) dC (bk _) (by simp only[go_sem]) rfl rfl,rfl⟩
 obtain⟨cc,cI,rfl,kP,yb⟩:∃cc cI,cs=cc++cI∧cc.length=cu.length * 7∧cI.length=dC.length * 7:=⟨cs.take (cu.length * 7),cs.drop (cu.length * 7),by simp,by simp;omega,by simp;omega⟩
 simp only[go_sem];repeat' first|(refine ad ?_;simp only[go_sem,dP])|refine af ?_|fail
 refine tk 3 ?_;unfold qx;repeat' first|(refine ad ?_;simp only[go_sem,dP,iJ,hV,Int.reduceLT])|refine af ?_|fail
 have aZ:dw (cc++cI) 0 (List.flatMap I.cells (cu.map bY))=aI bY cu++cI:=by
  have:=Gp (A:=[]) (B:=cI) (X:=List.flatMap I.cells (cu.map bY)) (C:=cc) (by rw[gC,kP])
  simpa[aI]using this
 rw[aZ];rw[bt]at al;refine⟨⟨by omega,by omega,Lj _,L8 _⟩,?_⟩
 have Od:(aI bY cu).length=cu.length * 7:=gC;by_cases z:dC=[]
 ·subst z;have ar:(cu.length=n)=True:=bJ (by simpa using ag)
  have au:cI=[]:=jg yb;subst au;have bd:cu.length * 72<=140737488355328:=by omega
  repeat' first|(refine ad ?_;simp only[go_sem,ar,iJ,hV,Int.reduceLT,b2,im,DL,ew,uz,bd,cP,List.all_nil,Od])|refine af ?_|fail
  refine⟨_,_,rfl,HY (v:=2) (cs:=aI bY cu) cu (bk _) (by simp only[go_sem]) rfl rfl,?_⟩
  first|rfl|rw[b2]
 ·have aMq:0<dC.length:=vF.2 z;have ar:(cu.length=n)=False:=uy (by omega)
  repeat' first|(refine ad ?_;simp only[go_sem,ar,iJ,hV,Int.reduceLT,Od])|refine af ?_|fail
  have a7:dw (aI bY cu++cI) (cu.length * 7) (List.flatMap I.cells (dC.map bY))=aI bY (cu++dC):=by
   have:=Gp (A:=aI bY cu) (B:=[]) (X:=List.flatMap I.cells (dC.map bY)) (C:=cI) (by rw[iI,yb])
   rw[Od]at this;rw[iu];simpa[aI]using this
  rw[a7];refine⟨⟨by omega,by omega,Lj _,L8 _⟩,?_⟩
  repeat' first|(refine ad ?_;simp only[go_sem,hV,Int.reduceLT])|refine af ?_|fail
  exact⟨_,_,rfl,HY (v:=1) (cs:=aI bY (cu++dC)) (cu++dC) (bk _) (by simp only[go_sem]) rfl (by rw[bt]),rfl⟩
end
end Go.Proofs.YthafnbmdmfoobaaGreatDoor

/- What the functions of this seat answer (36 of 40). No condition. -/
import Derived.Test.YthafnbmdmfoobaaGreatDoorWorkBI
set_option linter.unusedSimpArgs false
set_option linter.unusedVariables false
set_option maxRecDepth 100000
set_option maxHeartbeats 16000000
namespace Go.Proofs.YthafnbmdmfoobaaGreatDoor
section
def Kf:List cR:=[.free,.free,.pure 0,.pure 0,.pure 0,.pure 0,.pure 0,.pure 0,.free,.pure 0,.pure 0,.pure 0,.pure 0,.free,.pure 0,.pure 0,.pure 0,.pure 0,.pure 0,.eff [false,true,false,false,false,false,false,false,false,false,false,false,false,false,false]]
def Kg:List cR:=[.eff [],.free,.pure 1,.pure 1,.pure 1,.pure 1,.pure 0,.free,.free,.free,.free,.free]
attribute [go_sem] Kf Kg
def kW:List (I×I×Nat):=[(.int .i64 1,.func (.func 50) [] [],0),(.int .i64 2,.func (.func 51) [] [],1),(.int .i64 3,.func (.func 52) [] [],2),(.int .i64 4,.func (.func 53) [] [],3),(.int .i64 5,.func (.func 54) [] [],4)]
theorem Dg(n:Nat):iy (.int .i64) (kW.take n):=by
 intro x J;have:=List.mem_of_mem_take J;simp only[kW,c7,jB,jD]at this;rcases this with rfl|rfl|rfl|rfl|rfl<;>trivial
theorem aCQ(H:ab):c5 Tryz.prog 28 [] H (fun v H'=>v=.map H.length∧H'=H++[.map kW 5]):=by
 refine pD Tryz.func28 ?_;have ar:hB (I.int .i64 1) (.func (.func 50) [] []) [] 0=kW.take 1:=rfl;have au:hB (I.int .i64 2) (.func (.func 51) [] []) (kW.take 1) 1=kW.take 2:=rfl;have bd:hB (I.int .i64 3) (.func (.func 52) [] []) (kW.take 2) 2=kW.take 3:=rfl;have bE:hB (I.int .i64 4) (.func (.func 53) [] []) (kW.take 3) 3=kW.take 4:=rfl;have cE:hB (I.int .i64 5) (.func (.func 54) [] []) (kW.take 4) 4=kW:=rfl;have cc:pQ (I.int .i64 1) [] 0=1:=rfl;have cI:pQ (I.int .i64 2) (kW.take 1) 1=2:=rfl;have gZ:pQ (I.int .i64 3) (kW.take 2) 2=3:=rfl;have mZ:pQ (I.int .i64 4) (kW.take 3) 3=4:=rfl;have th:pQ (I.int .i64 5) (kW.take 4) 4=5:=rfl;refine bW ?_;refine⟨Dg 0,Dg 1,Dg 2,Dg 3,Dg 4,?_⟩;refine aT ?_;refine⟨_,[],_,(b2 _).symm,by simp,wT fun b aa=>?_,.cl _ (.map _ (by simp)),rfl,rfl⟩
 rw[dA]at aa;subst aa;intro p ae;simp only[kW,c7,jB,jD]at ae;have an:∀(n:Nat) (f:FuncId),cX n (.func (.func f) [] []):=fun n f=>.func _ _ _ (fun _ _ h=>by simp at h) (fun _ _ h=>by simp at h)
 rcases ae with rfl|rfl|rfl|rfl|rfl<;>exact⟨.int _ _,an _ _⟩
theorem aEL{n i v k lc:Nat}{H:ab}{cs:List I}(D:List ba)(ag:n<=i)(ah:ao H i=.cells v cs)(al:cs=aI aR D)(hk:D.length=k):cQ n H (.osl 18 i v 0 k lc) (.sl false (D.map aR)):=
 sG (es:=D.map aR) (rest:=[]) ag ah (al.trans (b2 _).symm) (by rw[cP,hk]) (fun e he=>by(obtain⟨x, -,rfl⟩:=bP.1 he;rfl)) (fun e he=>by(obtain⟨x, -,rfl⟩:=bP.1 he;simp only[go_sem]))
theorem aF4{l:List ba}{k:Nat}{t:ba}(h:l[k]?=some t):List.take 18 (List.drop (k * 18) (aI aR l))=(aR t).cells:=by
 obtain⟨hk,e⟩:=cA.1 h;have:=HK (enc:=aR) (s:=18) (fun _=>rfl) hk []
 rw[b2,e]at this;exact this
theorem aEM{i j:Nat}{who:Int}{v:eR}{x:bn}{G:ab}(h:ha i j who v x G)(u:eR):ha i j who u x (ai G i (.cells 0 (e7 j who u x))):=⟨h.ne,dT h.e3 _,bM h.bm (by have:=h.ne;omega) _⟩
theorem RI{i j:Nat}{who:Int}{u:eR}{x y:bn}{G H:ab}(aa:ha i j who u x G)(ag:y.aq.length=x.aq.length)(h1:H.length+1<i)(ae:∀k,k<H.length->ao G k=ao H k)(X:bu):
  ∃L z,ai (e5 G i j who u y) (H.length+1) X=H++L∧cQ H.length (ai (e5 G i j who u y) (H.length+1) X) (gu (.sl false (y.m.log.entries.map de)) (.sl false (y.m.log.nodes.map aW)) (.sl false (y.m.cj.map cU)) (.sl false (y.m.bN.map bU)) (.sl false (y.t.held.map a6)) (.sl false (y.t.waits.map a6)) (.sl false (y.g.waits.map cq)) (.osl 18 j 1 0 y.aq.length y.aq.length) (.sl false (y.ops.map bY)) y) z∧z=eY y:=by
 have aP:=aa.ne;have ak:=aa.e3;have gb:=aa.fR;have kf:=(aa.put y).bm;obtain⟨L,hU⟩:=K2 (H:=H) (H':=ai (e5 G i j who u y) (H.length+1) X) (by rw[aX,yE];omega) fun k hk=>by
  have:=ae k hk;unfold e5 ai;simp only[ao,eP]at this ⊢;rw[gS (by omega),gS (by omega),gS (by omega)]
  exact this
 refine⟨L,_,hU,TX false false false false false false false false y (aEL y.aq (by omega) (v:=1) (cs:=aI aR y.aq) ?_ rfl rfl),rfl⟩
 exact bM kf (by omega) _
theorem aCR{t:ba}(h:q8 t)(k:Int):q8 (dj t ⟨2,k⟩):=by
 obtain⟨ar,au, -, -, -,bd, -⟩:=C7 t k;obtain⟨h1,h2,h3⟩:=h;unfold q8;rw[ar,au,bd];exact⟨h1,gU (nX _ _) h2,h3⟩
theorem aEf{i j:Nat}{who:Nat}{u:eR}{x:bn}{G:ab}{q:Nat}(aa:ha i j who u x G)(b:j8 q x)(aS:q<=100000){t:ba}(aj:x.aq[who]?=some t)(he:t.ended=false)(hu:fM x.m.log.nodes t=u):
  ∃(c:Nat) (f:FuncId),eL (.int .i64 u.kind) kW=some (c,.func (.func f) [] [])∧lx Tryz.prog f=true∧q9 Tryz.prog f [] i j who u (oA who t u x) G:=by
 have an:=L0 x.m.log.nodes he;have a2:=b.IM aS;rw[hu]at an;obtain⟨a,k⟩:=u;simp only at an;unfold oA;simp only;rcases an with rfl|rfl|h|rfl|rfl
 ·rw[aF rfl];exact⟨_,_,rfl,aA,aEw aa a2 aj rfl⟩
 ·rw[az (by decide),aF rfl]
  exact⟨_,_,rfl,aA,aEx aa a2 (rD a2.uq fun t _ h=>aCR h k) aj rfl⟩
 ·cases h;rw[az (by decide),az (by decide),aF rfl]
  have aD:=Mn b.ci.iz t.call;exact⟨_,_,rfl,aA,aF1 aa a2 b.ci.iz aj (b.ci.cs t (df aj)) rfl (by have:=b.ci.ops;have:=b.ci.iz.cap;omega) ⟨gU aD.1 (by decide),gU aD.2.1 (by decide)⟩ fun _ _=>b.xW aS aj⟩
 ·rw[az (by decide),az (by decide),az (by decide),aF rfl]
  exact⟨_,_,rfl,aA,aEy aa a2 aj⟩
 ·obtain⟨rfl, -⟩:=Lo hu;rw[az (by decide),az (by decide),az (by decide),az (by decide),aF rfl]
  exact⟨_,_,rfl,aA,aBP aa a2 aj rfl⟩
theorem HL{q:Nat}(x:bn)(p:Int)(full:Bool)(b:j8 q x)(aS:q<=100000)(H:ab):aY Tryz.prog 13 [eY x,.int .i64 p,.bool full] H (eY (ow x p full)):=by
 refine bh Tryz.func13 ?_;have ag:=b.ci.n;have mm:=aEO false false false false false false false false false x p (by omega)
 unfold M0 at mm;unfold ow;simp only[eY,e4,gu]at mm ⊢;cases hw:vS x p with
 |none=>
  rw[hw]at mm;simp only at mm;repeat' first|((first|refine mx [10] Kf ?_|refine mx [11] Kg ?_|refine ad ?_);simp only[go_sem])|refine af ?_|fail
  exact bo (.refl _)
 |some who=>
  rw[hw]at mm;simp only at mm;repeat' first|((first|refine mx [10] Kf ?_|refine mx [11] Kg ?_|refine ad ?_);simp only[go_sem])|refine af ?_|fail
  refine c6 (Ru false x.aq (by omega) _) aA ?_
  rintro v H' ⟨rfl,rfl⟩;simp only[go_sem];obtain⟨t,aj,he,CL, -⟩:=MK (L1 hw);have tR:=(cA.1 aj).1;repeat' first|(refine ad ?_;simp only[go_sem])|refine bx ?_|fail
  obtain⟨y,aG⟩:∃y,p8 x=y:=⟨_,rfl⟩;have wN:y.aq=x.aq:=by rw[<-aG];rfl
  have ya:j8 q y:=by rw[<-aG];exact b.tick
  obtain⟨G,aT⟩:∃G,H++[.cells 0 (eY x).cells,.cells 0 (e4 true true true true true true true true true uO).cells,.cells 0 (e7 (H.length+3) who ⟨0,0⟩ (p8 x)),.cells 1 (aI aR x.aq)]=G:=⟨_,rfl⟩;have aa:ha (H.length+2) (H.length+3) who ⟨0,0⟩ y G:=⟨by omega,by rw[<-aT,<-aG];simp only[go_sem],by rw[<-aT,wN];simp only[go_sem]⟩
  have ae:∀k,k<H.length->ao G k=ao H k:=fun k hk=>by rw[<-aT];simp only[ao,eP];rw[iC hk]
  have a2:ao G (H.length+1)=.cells 0 (e4 true true true true true true true true true uO).cells:=by rw[<-aT];simp only[go_sem]
  simp only[eY,e4,gu,I.cells,e7,p8,uO,rH,Vl,GN,im]at aT a2;rw[aT];refine ly rfl (fun h=>?_) (fun h=>?_)
  ·have aJ:ie x.g who=true:=h;have gr:ie y.g who=true:=by rw[<-aG];exact aJ
   have Fl:wo full who x=mS full who y:=by unfold wo;rw[aF aJ,aG]
   have su:q9 Tryz.prog 26 [.bool full] (H.length+2) (H.length+3) who ⟨0,0⟩ (mS full who y) G:=by
    cases full with
    |true=>exact aCF aa (ya.IM aS) (by rw[wN];exact aj)
    |false=>exact aCG aa (ya.IM aS) (by have:=ya.ci.ops;have:=ya.ci.iz.cap;omega)
   have sB:(mS full who y).aq.length=y.aq.length:=by
    have:=(aGQ ya.ci who full gr).aq.1;exact this
   rw[Fl];obtain⟨z,OX⟩:∃z,mS full who y=z:=⟨_,rfl⟩;rw[OX]at su sB ⊢;repeat' first|(refine ad ?_;simp only[go_sem])|refine af ?_|fail
   refine c6 su aA ?_;rintro v H' ⟨rfl,rfl⟩;have cc:=(aa.put z).aV;have cI:ao (e5 G (H.length+2) (H.length+3) who ⟨0,0⟩ z) (H.length+1)=_:=(bM (bM a2 (show ¬H.length+3=H.length+1 by omega) _) (show ¬H.length+2=H.length+1 by omega) _)
   have gZ:=fun X=>dT (H:=e5 G (H.length+2) (H.length+3) who ⟨0,0⟩ z) (i:=H.length+1) (by have:=aa.e3;rw[yE];omega) (bu.cells 0 X)
   simp only[e7]at cc;repeat' first|(refine ad ?_;simp only[go_sem,cc,cI,gZ])|refine af ?_|fail
   have he:=RI aa sB (by omega) ae
   simp only[gu]at he;exact he _
  ·have aJ:ie x.g who=false:=by cases e:ie x.g who with
    |false=>rfl
    |true=>rw[e]at h;cases h
   have fk:=b.ci.cs t (df aj);have mL:=aDn false false false false y.m.log.nodes t fk.path fk.to (by have:=ya.ci.iz.nodes.len;omega)
   obtain⟨u,hu⟩:∃u,fM y.m.log.nodes t=u:=⟨_,rfl⟩;rw[hu]at mL;simp only[g9,jd,oF]at mL;have fj:=aF4 (l:=y.aq) (by rw[wN];exact aj)
   simp only[aR,I.cells]at fj;have g4:=dE (enc:=aR) (s:=18) (fun _=>rfl) y.aq
   have gr:((0:Int)<=(who:Int)∧(who:Int)<(y.aq.length:Int))=True:=bJ ⟨by omega,by rw[wN];omega⟩
   have ix:(who * 18+18<=y.aq.length * 18)=True:=bJ (by rw[wN];omega)
   have a8:=aa.aV;have aU:=bz aa.aV trivial;have a3:=aa.bm;have lM:=bz aa.bm trivial;have a1:=aa.a1;have a4:=aa.a4;have eh:=aa.eh;have e6:=aa.e6;simp only[e7]at a8 aU eh e6;have bq:=sV aa.e3 aa.fR aa.ne;repeat' first|((first|refine mx [10] Kf ?_|refine mx [11] Kg ?_|refine ad ?_);simp only[go_sem,a8,aU,a3,a1,a4,eh,e6,lM,bq,aX,fj,g4,gr,ix])|refine af ?_|fail
   obtain⟨dd,ek⟩:∃dd,ai G (H.length+2) (.cells 0 (e7 (H.length+3) who u y))=dd:=⟨_,rfl⟩;have gB:=aEM aa u;have sA:∀k,k<H.length->ao dd k=ao H k:=fun k hk=>by rw[<-ae k hk,<-ek];simp only[ao,ai,eP];rw[gS (by omega)]
   have FW:=bM a2 (show ¬H.length+2=H.length+1 by omega) (.cells 0 (e7 (H.length+3) who u y))
   rw[ek]at gB FW;simp only[e7]at ek;rw[ek];refine pJ (aCQ _) aA ?_;have aQ:=bz gB.aV trivial;have aO:=gB.aV;simp only[e7]at aQ aO;simp only[go_sem,aQ,aO];have kf:=gB.app [.map kW 5];obtain⟨c,rh,k1,k2,k3⟩:=aEf kf ya aS (by rw[wN];exact aj) he hu
   have aSz:iy (.int .i64) kW:=Dg 5;have Fl:wo full who x=oA who t u y:=by
    unfold wo;rw[az (by rw[aJ];decide),aG,eP,aj,<-hu,<-aG]
    rfl
   have sB:(oA who t u y).aq.length=y.aq.length:=by
    rw[<-hu];exact(aGR ya.ci (by rw[wN];exact aj) he).aq.1
   rw[Fl];obtain⟨z,OX⟩:∃z,oA who t u y=z:=⟨_,rfl⟩;rw[OX]at k3 sB ⊢;have OU:=bz FW trivial [.map kW 5];have yl:∀k,k<H.length->ao (dd++[.map kW 5]) k=ao H k:=fun k hk=>by
    rw[<-sA k hk];have:=gB.e3;simp only[ao,eP];rw[iC (by omega)]
   refine bW ?_;refine c6 k3 k2 ?_;rintro v H' ⟨rfl,rfl⟩;have cc:=(kf.put z).aV;have cI:ao (e5 (dd++[.map kW 5]) (H.length+2) (H.length+3) who u z) (H.length+1)=_:=(bM (bM OU (show ¬H.length+3=H.length+1 by omega) _) (show ¬H.length+2=H.length+1 by omega) _)
   have gZ:=fun X=>dT (H:=e5 (dd++[.map kW 5]) (H.length+2) (H.length+3) who u z) (i:=H.length+1) (by have:=kf.e3;rw[yE];omega) (bu.cells 0 X)
   simp only[e7]at cc;repeat' first|(refine ad ?_;simp only[go_sem,cc,cI,gZ])|refine af ?_|fail
   have he:=RI kf sB (by omega) yl
   simp only[gu]at he;exact he _
theorem aCS(x:bn){l:List Int}{j:Nat}(h:j<l.length):uJ x (l.take (j+1))=ow (uJ x (l.take j)) l[j] false:=by
 unfold uJ;rw[eB h,s4];rfl
theorem aF5{q:Nat}(f:Bool)(x:bn)(b:j8 q x)(l:List Int)(hl:q+l.length<=100000)(H:ab):aY Tryz.prog 23 [eY x,.sl f (l.map bj)] H (eY (uJ x l)):=by
 refine bh Tryz.func23 ?_;refine b0 (hC eY.eq_1 (hC e4.eq_1 gu.eq_1)) ?_;refine b5 (ι:=Nat) (fun j=>[(2,.ref H.length 0 0),(4,.ref (H.length+1) 0 0),(7,.sl f (l.map bj)),(8,.int .i64 l.length),(9,.int .i64 j)]) (fun j=>H++[.cells 0 (eY (uJ x (l.take j))).cells,.cells 0 (e4 true true true true true true true true true uO).cells])
  (fun j=>j<=l.length∧j8 (q+j) (uJ x (l.take j))) (fun j=>l.length-j) 0 ⟨bG _,b⟩ ?_ rfl ?_
 ·simp[go_sem]
 rintro j ⟨aw,aa⟩;obtain⟨y,aG⟩:∃y,uJ x (l.take j)=y:=⟨_,rfl⟩;rw[aG]at aa ⊢;by_cases ak:j<l.length
 ·have ae:=dg bj ak;have aH:decide ((j:Int)<(l.length:Int))=true:=b1;have av:=HL y l[j] false aa (by omega)
  have kf:=aa.step l[j] false;have e:=aCS x ak;rw[aG]at e;rw[<-e]at av kf;simp only[eY,e4,gu]at av;repeat' first|(refine ad ?_;simp only[go_sem,ae,bj,aH,eY,e4,gu])|refine af ?_|fail
  exact⟨j+1,⟨ak,kf⟩,by omega,bH _ (dW ak (by omega)),rfl⟩
 ·have lB:j=l.length:=by omega
  subst lB;have aH:decide ((l.length:Int)<(l.length:Int))=false:=by simp
  rw[eQ]at aG;rw[aG];refine b0 (hC eY.eq_1 (hC e4.eq_1 gu.eq_1)) ?_;exact bo (.refl _)
end
section
def dQ(p:a9):I:=.agg [.int .i64 p.aR,.int .i64 p.dJ,.int .i64 p.mark,.int .i64 p.end_,.int .i64 p.call.kind,.str p.call.path,.str p.call.to,.str p.call.data,.int .i64 p.call.n,.int .i64 p.bp.err,.str p.bp.data,.sl false (p.bp.names.map I.str),.int .i64 p.bp.n,.sl false (p.bp.events.map ct)]
def aH0:a9:=default
def rE(p:a9):List I:=(dQ p).cells
@[go_sem] theorem aRw(p:a9):bO (dQ p)=True:=by simp only[dQ,go_sem]
def dG(D:List a9):List I:=(D.map dQ).flatMap I.cells
theorem wU(o:a9):(rE o).length=14:=rfl
theorem GM(o:a9):(rE o).all I.one=true:=rfl
theorem K3(o:a9)(D:List a9):dG (o::D)=rE o++dG D:=rfl
theorem Hh(A B:List a9):dG (A++B)=dG A++dG B:=by unfold dG;rw[n0,List.flatMap_append]
theorem oa(D:List a9):(dG D).length=D.length * 14:=by
 induction D with
 |nil=>rfl
 |cons o D ay=>rw[K3,bt,ay,wU,cm];omega
theorem tW{A:List a9}{x:a9}{R:List a9}{k:Nat}(h:A.length=k):List.take 14 (List.drop (k * 14) (dG (A++x::R)))=rE x:=by
 rw[Hh,K3,List.drop_left' (by rw[oa,h])];exact List.take_left' (wU x)
theorem yF{A:List a9}{x y:a9}{R:List a9}{k:Nat}(h:A.length=k):dw (dG (A++x::R)) (k * 14) (rE y)=dG (A++y::R):=by
 have hl:(dG A).length=k * 14:=by rw[oa,h]
 rw[Hh,m0 hl,Hh,K3,K3,wU,List.drop_left' (wU x)]
theorem aEg(D:List a9):∀x∈dG D,bO x:=by
 intro x J;obtain⟨y,aG,J⟩:=rZ.1 J;exact bO.cells (W7 D y aG) x J
where
 W7 (l:List a9):∀e∈l.map dQ,bO e:=fun e he=>by
  obtain⟨x,_,rfl⟩:=bP.1 he;exact(by simp only[go_sem])
theorem vf(n v:Nat)(D:List a9):dp n (.cells v (dG D)):=fun x J=>(aEg D x J).cl n
def xD(P:Program)(f:I)(c:a9->a9->Int):Prop:=∀a b H,h6 P f [dQ a,dQ b] H (fun v H'=>v=.int .i64 (c a b)∧H'=H)
theorem KO{P:Program}{g:Bool}{f:I}{c:a9->a9->Int}{a b:a9}{H:ab}{K:I->Prop}(h:xD P f c)(hk:K (.int .i64 (c a b))):ou P g f [.agg (rE a),.agg (rE b)] H K:=⟨_,fun _=>h a b H,hk⟩
open Go.Srt
def KG:List cR:=[.free,.free,.free,.free,.free,.free,.free,.free,.free,.free,.free,.free,.pure 0,.pure 0,.free,.free,.free,.free,.pure 0,.pure 0,.pure 0,.eff [false,false,true,false,false],.pure 0,.eff [false,false]]
def C5:List cR:=[.free,.free,.free,.free,.free,.free,.free,.free,.pure 0,.pure 0,.free,.free,.pure 0,.pure 0,.pure 0,.eff [false,false,true,false,false],.pure 0,.eff [false,false]]
attribute [go_sem] KG C5
theorem aCT(X U M V Y:List a9)(NT:U.length=V.length)(fn:I)(H:ab)(aE v lc:Nat)(ah:ao H aE=.cells v (dG (X++(U++(M++(V++Y))))))(hl:(X++(U++(M++(V++Y)))).length<=1000000000):
  c5 Tryz.prog 168 [.osl 14 aE v 0 (X++(U++(M++(V++Y)))).length lc,.int .i64 X.length,.int .i64 (X.length+(U.length+M.length):Nat),.int .i64 U.length,fn] H
   (fun r H'=>r=.a0 []∧H'=ai H aE (.cells v (dG (X++(V++(M++(U++Y))))))):=by
 refine eJ Tryz.func168 ?_;have fX:=fun b=>m2 ah trivial b
 have js:=nw H aE;generalize ag:(X++(U++(M++(V++Y)))).length=n at *;simp only[bt]at ag;repeat' first|(refine ad ?_;simp only[go_sem])|refine af ?_|fail
 refine b5 (ι:=Nat) (fun k=>[(0,.osl 14 aE v 0 n lc),(1,.int .i64 X.length),(2,.int .i64 (X.length+(U.length+M.length):Nat)),(3,.int .i64 U.length),(10,.int .i64 k)])
  (fun k=>ai H aE (.cells v (dG ((X++V.take k)++((U.drop k++M)++(U.take k++(V.drop k++Y))))))) (fun k=>k<=U.length) (fun k=>U.length-k) 0 (bG _) ?_ ?_ ?_
 ·simp[go_sem]
 ·simp only[xr,List.drop_zero,b2,gK,cr];exact(oY ah trivial).symm
 ·intro k hk;by_cases ak:k<U.length
  ·have yh:k<V.length:=by omega
   have ar:U.drop k=U[k]::U.drop (k+1):=eo ak;have au:V.drop k=V[k]::V.drop (k+1):=eo yh;have bd:U.take (k+1)=U.take k++[U[k]]:=eB ak;have bE:V.take (k+1)=V.take k++[V[k]]:=eB yh;have pH:(X++V.take (k+1))++((U.drop (k+1)++M)++(U.take (k+1)++(V.drop (k+1)++Y)))=(X++V.take k)++V[k]::(((U.drop (k+1)++M)++U.take k)++U[k]::(V.drop (k+1)++Y)):=by rw[bd,bE];simp only[cr,gi,gK]
   have aIh:(X++V.take k)++((U.drop k++M)++(U.take k++(V.drop k++Y)))=(X++V.take k)++U[k]::(((U.drop (k+1)++M)++U.take k)++V[k]::(V.drop (k+1)++Y)):=by rw[ar,au];simp only[cr,gi,gK]
   have cu:(X++V.take k).length=X.length+k:=by rw[bt,e8];omega
   have dC:((U.drop (k+1)++M)++U.take k).length=U.length+M.length-1:=by simp only[bt,gL,e8];omega
   rw[aIh];generalize U[k]=x at *;generalize V[k]=y at *;generalize X++V.take k=A at *;generalize(U.drop (k+1)++M)++U.take k=B at *;generalize uU:V.drop (k+1)++Y=C at *;obtain⟨p,ae⟩:∃p,p=X.length+k:=⟨_,rfl⟩;obtain⟨q,aS⟩:∃q,q=X.length+k+1+B.length:=⟨_,rfl⟩;have ca:IntKind.i64.wrap ((X.length:Int)+(k:Int))=(p:Int):=b9 (by omega) (by omega)
   have bT:IntKind.i64.wrap (((X.length+(U.length+M.length):Nat):Int)+(k:Int))=(q:Int):=b9 (by omega) (by omega)
   have rG:(A++x::B).length=q:=by rw[bt,cm];omega
   have F3:(A++y::B).length=q:=by rw[bt,cm];omega
   have aZ:=tW (x:=x) (R:=B++y::C) (cu.trans ae.symm);have a7:=tW (x:=y) (R:=C) rG;have s1:=yF (x:=x) (y:=y) (R:=B++y::C) (cu.trans ae.symm);have s2:=yF (x:=y) (y:=x) (R:=C) F3;rw[cr,gi]at a7 s2;rw[cr,gi]at s2;repeat' first|((first|refine mx [3] KG ?_|refine ad ?_);simp only[go_sem,fX,js,ca,bT,aZ,a7,s1,s2,oa,wU,GM])|refine af ?_|fail
   (repeat'(with_reducible refine And.intro ?_ ?_))<;>try(first|omega|rfl)
   repeat' first|((first|refine mx [3] KG ?_|refine ad ?_);simp only[go_sem])|refine af ?_|fail
   refine⟨k+1,ak,by omega,bH _ (dW ak (by omega)),?_⟩
   rw[<-pH,<-uU];simp only[cr]
  ·have g3:k=U.length:=by omega
   have aH:decide ((k:Int)<(U.length:Int))=false:=cg;repeat' first|((first|refine mx [3] KG ?_|refine ad ?_);simp only[go_sem,fX,js,aH])|refine af ?_|fail
   refine lS (vf _ _ _) _ ⟨rfl,?_⟩;rw[g3,eQ,l7,NT,eQ,l7];rfl
theorem MF{X U M V Y D:List a9}{n:Nat}{a b k:Int}(cD:D=X++(U++(M++(V++Y))))(ag:n=D.length)(aD:a=X.length)(aa:b=(X.length+(U.length+M.length):Nat))(hk:k=U.length)(NT:U.length=V.length)(fn:I)(H:ab)(aE v lc:Nat)
  (ah:ao H aE=.cells v (dG D)) (hl:n<=1000000000):
  c5 Tryz.prog 168 [.osl 14 aE v 0 n lc,.int .i64 a,.int .i64 b,.int .i64 k,fn] H
   (fun r H'=>r=.a0 []∧H'=ai H aE (.cells v (dG (X++(V++(M++(U++Y))))))):=by
 subst cD ag aD aa hk;exact aCT X U M V Y NT fn H aE v lc ah hl
structure XZ (X U V Y:List a9) (m:Nat) (s:List a9×List a9×List a9×List a9):Prop where
 aS1:0<s.2.1.length
 aS2:0<s.2.2.1.length
 aSY:m=X.length+s.1.length+s.2.1.length
 goal:s.1++(s.2.2.1++(s.2.1++s.2.2.2))=V++U
def qM(X Y:List a9)(s:List a9×List a9×List a9×List a9):List a9:=X++(s.1++(s.2.1++(s.2.2.1++(s.2.2.2++Y))))
theorem aHz{X U V Y D:List a9}{n:Nat}{a m b:Int}(cD:D=X++(U++(V++Y)))(ag:n=D.length)(aD:a=X.length)(hm:m=(X.length+U.length:Nat))(aa:b=(X.length+U.length+V.length:Nat))(af:0<U.length)(sk:0<V.length)(fn:I)(H:ab)(aE v lc:Nat)
  (ah:ao H aE=.cells v (dG D)) (hl:n<=1000000000):
  c5 Tryz.prog 121 [.osl 14 aE v 0 n lc,.int .i64 a,.int .i64 m,.int .i64 b,fn] H
   (fun r H'=>r=.a0 []∧H'=ai H aE (.cells v (dG (X++(V++(U++Y)))))):=by
 refine eJ Tryz.func121 ?_;have fX:=fun b=>m2 ah trivial b
 have js:=nw H aE;have hlen:n=X.length+(U.length+(V.length+Y.length)):=by rw[ag,cD];simp only[bt]
 obtain⟨qD,aJ2⟩:∃qD:Nat,qD=X.length+U.length:=⟨_,rfl⟩;have ca:IntKind.i64.wrap (m-a)=(U.length:Int):=b9 (by omega) (by omega)
 have bT:IntKind.i64.wrap (b-m)=(V.length:Int):=b9 (by omega) (by omega)
 rw[<-aJ2]at hm;subst hm;repeat' first|(refine ad ?_;simp only[go_sem,ca,bT])|refine bx ?_|(refine bD ?_ ?_<;>intro h<;>try exact bB h)|fail
 refine b5 (ι:=List a9×List a9×List a9×List a9) (fun s=>[(0,.osl 14 aE v 0 n lc),(2,.int .i64 qD),(4,fn),(10,.int .i64 s.2.1.length),(11,.int .i64 s.2.2.1.length)])
  (fun s=>ai H aE (.cells v (dG (qM X Y s)))) (XZ X U V Y qD) (fun s=>s.2.1.length+s.2.2.1.length) ([],U,V,[]) ⟨af,sk,by simp only[ew];omega,by simp⟩ ?_ ?_ ?_
 ·simp[go_sem]
 ·have e:qM X Y ([],U,V,[])=D:=by rw[cD];simp[qM]
  rw[e];exact(oY ah trivial).symm
 ·rintro⟨P,A,B,Q⟩ ⟨h1,h2,h3,h4⟩;simp only at h1 h2 h3 h4 ⊢;have Ju:(qM X Y (P,A,B,Q)).length=n:=by
   have:=bH List.length h4;simp only[bt]at this;simp only[qM,bt];omega
  have Cq:(X++P).length=X.length+P.length:=bt;have cO:=Ju;simp only[qM,bt]at cO;by_cases aP:A.length=B.length
  ·have dL:IntKind.i64.wrap ((qD:Int)-(A.length:Int))=((X.length+P.length:Nat):Int):=b9 (by omega) (by omega)
   have aH:decide ((A.length:Int)=(B.length:Int))=true:=b1;repeat' first|(refine ad ?_;simp only[go_sem,fX,js,dL,aH])|refine bx ?_|(refine bD ?_ ?_<;>intro h<;>try exact bB h)|fail
   refine c6 (MF (a:=((X.length+P.length:Nat):Int)) (b:=(qD:Int)) (k:=(A.length:Int)) (X:=X++P) (U:=A) (M:=[]) (V:=B) (Y:=Q++Y) (D:=qM X Y (P,A,B,Q)) (by simp[qM]) Ju.symm (by rw[Cq]) (by rw[Cq,ew];omega) rfl aP _ _ _ _ _ (fX _) hl) (aA) ?_
   rintro r H' ⟨rfl,rfl⟩;simp only[go_sem,js];repeat' first|(refine ad ?_;simp only[go_sem,fX,js])|refine af ?_|fail
   refine lS (vf _ _ _) _ ⟨rfl,?_⟩;have e:X++(P++(B++(A++(Q++Y))))=X++((P++(B++(A++Q)))++Y):=by simp only[cr]
   rw[e,h4,cr]
  ·have aH:decide ((A.length:Int)=(B.length:Int))=false:=cg;by_cases kR:B.length<A.length
   ·have E1:(A.take B.length).length=B.length:=by rw[e8];omega
    have uV:(A.drop B.length).length=A.length-B.length:=gL ..;have dL:IntKind.i64.wrap ((qD:Int)-(A.length:Int))=((X.length+P.length:Nat):Int):=b9 (by omega) (by omega)
    have gH:IntKind.i64.wrap ((A.length:Int)-(B.length:Int))=((A.drop B.length).length:Int):=b9 (by omega) (by omega)
    have ec:decide ((B.length:Int)<(A.length:Int))=true:=b1;have pH:qM X Y (P,A,B,Q)=X++P++(A.take B.length++(A.drop B.length++(B++(Q++Y)))):=by
     have e:X++P++(A.take B.length++(A.drop B.length++(B++(Q++Y))))=X++(P++((A.take B.length++A.drop B.length)++(B++(Q++Y)))):=by simp only[cr]
     rw[e,jf];rfl
    repeat' first|(refine ad ?_;simp only[go_sem,fX,js,dL,gH,aH,ec])|refine bx ?_|(refine bD ?_ ?_<;>intro h<;>try exact bB h)|fail
    refine c6 (MF (a:=((X.length+P.length:Nat):Int)) (b:=(qD:Int)) (k:=(B.length:Int)) (X:=X++P) (U:=A.take B.length) (M:=A.drop B.length) (V:=B) (Y:=Q++Y) (D:=qM X Y (P,A,B,Q)) pH Ju.symm (by rw[Cq]) (by rw[Cq];omega) (by rw[E1]) E1 _ _ _ _ _ (fX _) hl) (aA) ?_
    rintro r H' ⟨rfl,rfl⟩;simp only[go_sem,js];repeat' first|(refine ad ?_;simp only[go_sem,fX,js,gH])|refine af ?_|fail
    refine⟨(P++B,A.drop B.length,A.take B.length,Q),⟨by simp only;omega,by simp only;omega,by simp only[bt];omega,?_⟩,by simp only;omega,⟨rfl,by simp only[E1]⟩,?_⟩
    ·simp only;rw[<-h4];have e:P++B++(A.take B.length++(A.drop B.length++Q))=P++(B++((A.take B.length++A.drop B.length)++Q)):=by simp only[cr]
     rw[e,jf]
    ·simp only[qM,cr]
   ·have aIE:(B.take (B.length-A.length)).length=B.length-A.length:=by rw[e8];omega
    have uV:(B.drop (B.length-A.length)).length=A.length:=by rw[gL];omega
    have dL:IntKind.i64.wrap ((qD:Int)-(A.length:Int))=((X.length+P.length:Nat):Int):=b9 (by omega) (by omega)
    have hM:IntKind.i64.wrap ((qD:Int)+(B.length:Int))=((qD+B.length:Nat):Int):=b9 (by omega) (by omega)
    have jt:IntKind.i64.wrap (((qD+B.length:Nat):Int)-(A.length:Int))=((qD+B.length-A.length:Nat):Int):=b9 (by omega) (by omega)
    have gH:IntKind.i64.wrap ((B.length:Int)-(A.length:Int))=((B.take (B.length-A.length)).length:Int):=b9 (by omega) (by omega)
    have ec:decide ((B.length:Int)<(A.length:Int))=false:=cg;have pH:qM X Y (P,A,B,Q)=X++P++(A++(B.take (B.length-A.length)++(B.drop (B.length-A.length)++(Q++Y)))):=by
     have e:X++P++(A++(B.take (B.length-A.length)++(B.drop (B.length-A.length)++(Q++Y))))=X++(P++(A++((B.take (B.length-A.length)++B.drop (B.length-A.length))++(Q++Y)))):=by simp only[cr]
     rw[e,jf];rfl
    repeat' first|(refine ad ?_;simp only[go_sem,fX,js,dL,gH,hM,jt,aH,ec])|refine bx ?_|(refine bD ?_ ?_<;>intro h<;>try exact bB h)|fail
    refine c6 (MF (a:=((X.length+P.length:Nat):Int)) (b:=((qD+B.length-A.length:Nat):Int)) (k:=(A.length:Int)) (X:=X++P) (U:=A) (M:=B.take (B.length-A.length)) (V:=B.drop (B.length-A.length)) (Y:=Q++Y) (D:=qM X Y (P,A,B,Q)) pH Ju.symm (by rw[Cq]) (by rw[Cq];omega) rfl uV.symm _ _ _ _ _ (fX _) hl) (aA) ?_
    rintro r H' ⟨rfl,rfl⟩;simp only[go_sem,js];repeat' first|(refine ad ?_;simp only[go_sem,fX,js,gH])|refine af ?_|fail
    refine⟨(P,B.drop (B.length-A.length),B.take (B.length-A.length),A++Q),⟨by simp only;omega,by simp only;omega,by simp only;omega,?_⟩,by simp only;omega,⟨by simp only[uV],rfl⟩,?_⟩
    ·simp only;rw[<-h4];have e:P++(B.take (B.length-A.length)++(B.drop (B.length-A.length)++(A++Q)))=P++((B.take (B.length-A.length)++B.drop (B.length-A.length))++(A++Q)):=by simp only[cr]
     rw[e,jf]
    ·simp only[qM,cr]
structure Qp (lt:a9->a9->Bool) (X M Y:List a9) (s:Nat×List a9):Prop where
 le:s.1<=M.length
 ex:∃S,s.2=X++(S++(M.drop s.1++Y))∧fm lt (M.take s.1) S∧e9 lt S
theorem Rw{X M Y D:List a9}{n:Nat}{a b:Int}{lt:a9->a9->Bool}{c:a9->a9->Int}(hw:SWO lt)(al:∀x y,decide (c x y<0)=lt x y)
  (cD:D=X++(M++Y)) (ag:n=D.length) (aD:a=X.length) (aa:b=(X.length+M.length:Nat)) (fn:Fn) (fs cs:List I) (an:xD Tryz.prog (.func fn fs cs) c) (H:ab) (aE v lc:Nat)
  (ah:ao H aE=.cells v (dG D)) (hl:n<=1000000000):
  c5 Tryz.prog 85 [.osl 14 aE v 0 n lc,.int .i64 a,.int .i64 b,.func fn fs cs] H
   (fun r H'=>r=.a0 []∧∃S,fm lt M S∧e9 lt S∧H'=ai H aE (.cells v (dG (X++(S++Y))))):=by
 refine eJ Tryz.func85 ?_;have fX:=fun b=>m2 ah trivial b
 have js:=nw H aE;have hlen:n=X.length+(M.length+Y.length):=by rw[ag,cD];simp only[bt]
 cases M with
 |nil=>
  have ca:IntKind.i64.wrap (a+1)=((X.length+1:Nat):Int):=by subst aD;exact cB
  have aH:decide (((X.length+1:Nat):Int)<b)=false:=b8 (by subst aa;simp only[ew];omega)
  repeat' first|(refine ad ?_;simp only[go_sem,ca])|refine af ?_|fail
  refine b5 (ι:=Unit) (fun _=>[(2,.int .i64 b),(8,.int .i64 (X.length+1:Nat))]) (fun _=>H) (fun _=>True) (fun _=>0) () trivial ?_ rfl ?_
  ·simp[go_sem]
  ·intro _ _;repeat' first|(refine ad ?_;simp only[go_sem,aH])|refine af ?_|fail
   have e:H=ai H aE (.cells v (dG (X++([]++Y)))):=by rw[<-show D=X++([]++Y)from cD];exact(oY ah trivial).symm
   conv=>enter [1,H1,1,L,1,y];skip
   have h:=lS (H:=H) (i:=aE) (b:=.cells v (dG (X++([]++Y)))) (vf _ _ _) (fun r H'=>r=.a0 []∧∃S,fm lt [] S∧e9 lt S∧H'=ai H aE (.cells v (dG (X++(S++Y))))) ⟨rfl,[],.refl _,.nil,rfl⟩
   rw[<-e]at h;exact h
 |cons da XX=>
  generalize kO:da::XX=M at *;have tL:1<=M.length:=by rw[<-kO];simp
  have ca:IntKind.i64.wrap (a+1)=((X.length+1:Nat):Int):=by subst aD;exact cB
  repeat' first|(refine ad ?_;simp only[go_sem,ca])|refine af ?_|fail
  refine b5 (ι:=Nat×List a9) (fun s=>[(0,.osl 14 aE v 0 n lc),(1,.int .i64 a),(2,.int .i64 b),(3,.func fn fs cs),(8,.int .i64 (X.length+s.1:Nat))])
   (fun s=>ai H aE (.cells v (dG s.2))) (Qp lt X M Y) (fun s=>M.length-s.1) (1,D) ⟨tL,[da],by rw[cD,<-kO];rfl,by rw[<-kO];exact .refl _,.one _⟩ ?_ (oY ah trivial).symm ?_
  ·simp[go_sem]
  ·rintro⟨i,E⟩ ⟨hi,S,ga,Fb,Cn⟩;simp only at hi ga Fb Cn ⊢;have Vx:S.length=i:=by have:=Fb.1;rw[e8]at this;omega
   by_cases ak:i<M.length
   ·have ar:M.drop i=M[i]::M.drop (i+1):=eo ak;have au:M.take (i+1)=M.take i++[M[i]]:=eB ak;rw[ar]at ga;have iw:(M.drop (i+1)).length=M.length-(i+1):=gL ..;generalize M[i]=x at *;generalize e2:M.drop (i+1)=R at *;have aH:decide (((X.length+i:Nat):Int)<b)=true:=b1;have bT:IntKind.i64.wrap (((X.length+i:Nat):Int)+1)=((X.length+(i+1):Nat):Int):=b9 (by omega) (by omega)
    repeat' first|(refine ad ?_;simp only[go_sem,aH])|refine af ?_|fail
    refine b5 (ι:=List a9×List a9) (fun s=>[(0,.osl 14 aE v 0 n lc),(1,.int .i64 a),(2,.int .i64 b),(3,.func fn fs cs),(8,.int .i64 (X.length+i:Nat)),(9,.int .i64 (X.length+s.1.length:Nat))])
     (fun s=>ai H aE (.cells v (dG ((X++s.1)++x::(s.2++(R++Y)))))) (fun s=>s.1++s.2=S∧∀y∈s.2,lt x y=true) (fun s=>s.1.length) (S,[]) ⟨b2 _,by simp⟩ ?_ ?_ ?_
    ·simp[go_sem,Vx]
    ·rw[ga];simp only[cr,gi,gK]
    ·rintro⟨q6,ll⟩ ⟨Co,kR⟩;simp only at Co kR ⊢;have aIX:q6.length+ll.length=i:=by rw[<-Vx,<-Co,bt]
     have fin:(∀s∈q6,lt x s=false)->Qp lt X M Y (i+1,(X++q6)++x::(ll++(R++Y))):=fun h1=>by
      refine⟨ak,q6++x::ll,by simp only[e2,cr,gi],?_,?_⟩
      ·rw[au];refine fm.trans (Fb.app (.refl [x])) ?_;rw[<-Co];exact TH hw kR
      ·rw[<-Co]at Cn;exact TG hw Cn kR h1
     rcases List.eq_nil_or_concat q6 with aC|⟨r5,y,aC⟩
     ·subst aC;have aw:decide (a<(X.length:Int))=false:=cg;rw[ew,uz];repeat' first|((first|refine mx [6] C5 ?_|refine ad ?_);simp only[go_sem,aw,fX,js,bT])|refine af ?_|fail
      exact⟨_,fin (by simp),by simp only;omega,rfl,by simp⟩
     ·subst aC;rw[List.concat_eq_append]at *;obtain⟨p,ae⟩:∃p,p=X.length+r5.length:=⟨_,rfl⟩;obtain⟨q,aS⟩:∃q,q=X.length+r5.length+1:=⟨_,rfl⟩;have jN:X.length+(r5++[y]).length=q:=by rw[bt,uv];omega
      have aw:decide (a<(q:Int))=true:=b1;have dL:IntKind.i64.wrap ((q:Int)-1)=(p:Int):=b9 (by omega) (by omega)
      have pH:(X++(r5++[y]))++x::(ll++(R++Y))=(X++r5)++y::x::(ll++(R++Y)):=by simp only[cr,gi,gK]
      have cu:(X++r5).length=p:=by rw[bt,ae]
      have dC:(X++(r5++[y])).length=q:=by rw[bt,jN]
      have rG:(X++r5++[y]).length=q:=by rw[cr];exact dC
      have aZ:=tW (x:=y) (R:=x::(ll++(R++Y))) cu;have a7:=tW (x:=x) (R:=ll++(R++Y)) rG;have s1:=yF (x:=x) (y:=y) (R:=ll++(R++Y)) rG;have s2:=yF (x:=y) (y:=x) (R:=y::(ll++(R++Y))) cu;simp only[cr,gi,gK]at aZ a7 s1 s2 pH;simp only[bt,cm]at aIX;rw[jN];simp only[pH,cr,gi,gK];have kg:(q:Int)<(n:Int):=by omega
      have Fw:q * 14+14<=(dG (X++(r5++y::x::(ll++(R++Y))))).length:=by rw[oa];simp only[bt,cm];omega
      have fe:p * 14+14<=(dG (X++(r5++y::x::(ll++(R++Y))))).length:=by rw[oa];simp only[bt,cm];omega
      have aSE:p * 14+14<=(dG (X++(r5++y::y::(ll++(R++Y))))).length:=by rw[oa];simp only[bt,cm];omega
      repeat' first|((first|refine mx [6] C5 ?_|refine ad ?_);simp only[go_sem,aw,fX,js,bT,dL,aZ,a7,wU,GM])|refine af ?_|fail
      (repeat'(with_reducible refine And.intro ?_ ?_))<;>try(first|omega|rfl)
      refine KO an ?_;simp only[go_sem,al];cases cV:lt x y with
      |false=>
       repeat' first|((first|refine mx [6] C5 ?_|refine ad ?_);simp only[go_sem,cV,fX,js,bT])|refine af ?_|fail
       refine⟨_,fin (aD4 hw (by rw[<-Co]at Cn;exact Cn.left) cV),by simp only;omega,rfl,?_⟩
       simp only[cr,gi,gK]
      |true=>
       repeat' first|((first|refine mx [6] C5 ?_|refine ad ?_);simp only[go_sem,cV,fX,js,dL,aZ,a7,s1,s2,wU,GM])|refine af ?_|fail
       (repeat'(with_reducible refine And.intro ?_ ?_))<;>try(first|omega|rfl)
       repeat' first|((first|refine mx [6] C5 ?_|refine ad ?_);simp only[go_sem,dL])|refine af ?_|fail
       refine⟨(r5,y::ll),⟨by rw[<-Co,cr];rfl,fun z a2=>?_⟩,nW _,by rw[ae],rfl⟩
       rcases c7.1 a2 with rfl|a2
       ·exact cV
       ·exact kR z a2
   ·have fx:i=M.length:=by omega
    have aH:decide (((X.length+i:Nat):Int)<b)=false:=cg;repeat' first|(refine ad ?_;simp only[go_sem,aH])|refine af ?_|fail
    rw[fx,eQ]at Fb;rw[fx,l7,gK]at ga;exact lS (vf _ _ _) _ ⟨rfl,S,Fb,Cn,by rw[ga]⟩
end
end Go.Proofs.YthafnbmdmfoobaaGreatDoor

/- What the functions of this seat answer (14 of 53). No condition. -/
import Derived.Test.YtnmamncmpklliaaGreatDoorWorkAK
set_option linter.unusedSimpArgs false
set_option linter.unusedVariables false
set_option linter.unusedSectionVars false
set_option maxRecDepth 100000
set_option maxHeartbeats 16000000
namespace Go.Proofs.YtnmamncmpklliaaGreatDoor
variable{k s:Nat}{P:Program}{f:FuncId}{F:Func}{α:Type}
open Go.Proofs.Tryz
def aS{α:Type}(enc:α->I)(D:List α):List I:=(D.map enc).flatMap I.cells
section
variable {α:Type} {enc:α->I} {s:Nat}
theorem JK:aS enc []=[]:=rfl
theorem iR(A B:List α):aS enc (A++B)=aS enc A++aS enc B:=by simp[aS]
theorem q1(x:α)(B:List α):aS enc (x::B)=(enc x).cells++aS enc B:=by simp[aS]
theorem ej(hs:∀x,(enc x).cells.length=s)(D:List α):(aS enc D).length=D.length * s:=by
 induction D with
 |nil=>simp[aS]
 |cons x D J=>rw[q1,bF,J,hs,cg,pg];omega
theorem aIB(hs:∀x,(enc x).cells.length=s){A R:List α}{x:α}(h:A.length=k):List.take s (List.drop (k * s)<|aS enc (A++x::R))=(enc x).cells:=by
 have hl:=ej hs A;rw[h]at hl;rw[iR,<-hl,xZ,q1,<-hs x,x0]
theorem A1(hs:∀x,(enc x).cells.length=s){D:List α}(h:k<D.length):List.take s (List.drop (k * s)<|aS enc D)=(enc D[k]).cells:=by
 have e:D=D.take k++D[k]::D.drop (k+1):=by rw[<-ij h,pY]
 have:=aIB hs (A:=D.take k) (R:=D.drop (k+1)) (x:=D[k]) (k:=k)<|by rw[eK];omega
 rwa[<-e]at this
theorem JL(hs:∀x,(enc x).cells.length=s){D:List α}(h:k<D.length)(y:α):dq (aS enc D) (k * s) (enc y).cells=aS enc (D.set k y):=by
 have hl:=ej hs<|D.take k;rw[eK,uX iV]at hl
 have e:D=D.take k++(D[k]::D.drop (k+1)):=by rw[<-ij h,pY]
 have al:=rS (A:=aS enc<|D.take k) (B:=aS enc (D[k]::D.drop (k+1))) (off:=k * s) (X:=(enc y).cells) hl;rw[<-iR,<-e]at al;rw[al,List.set_eq_take_append_cons_drop,aA h,iR,q1,q1,show(enc y).cells.length=(enc D[k]).cells.length by rw[hs,hs],xZ]
theorem y4(ad:∀x,b6<|enc x)(D:List α):∀x∈aS enc D,b6 x:=λx J=>by
 unfold aS at J;rw[u2]at J;obtain⟨y,U,J⟩:=J;obtain⟨z, -,rfl⟩:=bJ.1 U;exact b6.cells (ad z) x J
theorem KD(ad:∀x,b6<|enc x)(n v:Nat)(D:List α):ep n (.cells v<|aS enc D):=λx J=>(y4 ad D x J).cl n
theorem M0{l:List α}{p:α->Bool}(h:eT p l= -1):l.filter (λx=> !p x)=l:=by
 induction l with
 |nil=>rfl
 |cons x l J=>
  unfold eT at h;by_cases ad:p x=true
  ·rw[aA ad]at h;cases h
  ·rw[aj ad]at h;split at h
   ·rename_i h1;rw[sE,aA (by simp[ad]),J h1]
   ·have:=Ju p l;omega
theorem Up{l:List α}{p:α->Bool}(h:eT p l≠ -1):∃A x B,l=A++x::B/\eT p l=A.length/\p x=true/\A.filter (λx=> !p x)=A:=by
 induction l with
 |nil=>exact absurd rfl h
 |cons x l J=>
  by_cases ad:p x=true
  ·exact⟨[],x,l,rfl,by simp[eT,ad],ad,rfl⟩
  ·unfold eT at h ⊢;rw[aj ad]at h ⊢;by_cases h1:eT p l= -1
   ·rw[aA h1]at h;exact absurd rfl h
   ·rw[aj h1];obtain⟨A,y,B,av,al,U,K⟩:=J h1;exact⟨x::A,y,B,by rw[av];rfl,by rw[al];simp,U,by rw[sE,aA (by simp[ad]),K]⟩
theorem Kn(hs:∀x,(enc x).cells.length=s){D:List α}(h:k<D.length)(rest:List I):List.take s (List.drop (k * s)<|aS enc D++rest)=(enc D[k]).cells:=by
 have hl:=ej hs D;have h2:k * s+s<=D.length * s:=by rw[<-Nat.succ_mul];exact wA s h
 rw[Gc iV,NP (by rw[fT];omega),A1 hs h]
theorem nT.lA{E:α->I}(h:nT E s)(D:List α):(aS E D).length=D.length * s:=ej h.n D
def Df(P:Program)(f:FuncId)(E:α->I)(s:Nat):Prop:=∀(b:Bool) (l:List α),l.length<=1073741824->∀H,dp P f [.sl b (l.map E)] H (λv H'=>v=.osl s H.length 1 0 l.length l.length/\H'=H++[.cells 1 (aS E l)])
def tN(P:Program)(f:FuncId)(E:α->I)(s:Nat):Prop:=∀(l:List α) (p:α->Bool) (i v lc n:Nat),n=l.length->n<=lc->n<=1073741824->∀{fn:Fn} {fs cs:List I} (rest:List I) (H:ab),ay H i=.cells v (aS E l++rest)->
 (∀x,kb P (.func fn fs cs) [E x] H (λr dw=>r=.bool (p x)/\dw=H))->aM P f [.osl s i v 0 n lc,.func fn fs cs] H (.int .i64<|eT p l)
def Gy(P:Program)(f:FuncId)(E:α->I)(s:Nat):Prop:=∀(l:List α) (p:α->Bool) (i v lc n:Nat),n=l.length->n<=lc->n<=1073741824->∀{fn:Fn} {fs cs:List I} (kV:ab->Prop),(∀G b,kV G->kV (ar G i b))->(∀G L,kV G->kV (G++L))->∀H,ay H i=.cells v (aS E l)->
 (∀x G,kV G->kb P (.func fn fs cs) [E x] G (λr dw=>r=.bool (p x)/\dw=G))->kV H->
 dp P f [.osl s i v 0 n lc,.func fn fs cs] H (λr H'=>∃rest,r=.osl s i v 0 (l.filter λx=> !p x).length lc/\H'=ar H i (.cells v<|aS E (l.filter (λx=> !p x))++rest)/\rest.length=(n-(l.filter (λx=> !p x)).length) * s/\∀x∈rest,b6 x)
def KS(P:Program)(f:FuncId)(E:α->I)(s:Nat):Prop:=∀(l:List α) (p:α->Bool) (i v lc n:Nat),n=l.length->n<=lc->n<=1073741824->∀{fn:Fn} {fs cs:List I} (H:ab),ay H i=.cells v (aS E l)->
 (∀x,kb P (.func fn fs cs) [E x] H (λr dw=>r=.bool (p x)/\dw=H))->aM P f [.osl s i v 0 n lc,.func fn fs cs] H (.int .i64<|eT p l)
def KT(P:Program)(f:FuncId)(E:α->I)(s:Nat):Prop:=∀(l:List α) (p:α->Bool) (i v lc n:Nat),n=l.length->n<=lc->n<=1073741824->∀{fn:Fn} {fs cs:List I} (kV:ab->Prop),(∀G b,kV G->kV (ar G i b))->(∀G L,kV G->kV (G++L))->∀H,ay H i=.cells v (aS E l)->
 (∀x G,kV G->kb P (.func fn fs cs) [E x] G (λr dw=>r=.bool (p x)/\dw=G))->kV H->
 dp P f [.osl s i v 0 n lc,.func fn fs cs] H (λr H'=>∃rest,r=.osl s i v 0 (l.filter λx=> !p x).length lc/\H'=ar H i (.cells v<|aS E (l.filter (λx=> !p x))++rest))
theorem Gy.o{E:α->I}(h:Gy P f E s):KT P f E s:=λl p i v lc n a b c _ _ _ J g1 g2 H U K O=>(h l p i v lc n a b c J g1 g2 H U K O).mono λ_ _ ⟨r,aP,T,_⟩=>⟨r,aP,T⟩
theorem tN.o{E:α->I}(h:tN P f E s):KS P f E s:=λl p i v lc n a b c _ _ _ H J U=>h l p i v lc n a b c [] H (by rw[cA];exact J) U
theorem nT.dS{E:α->I}(h:nT E s){l:List α}{n:Nat}(af:n=l.length)(rest:List I):∀k,k<n->k * s+s<=(aS E l++rest).length:=λk hk=>by
 have h2:k * s+s<=l.length * s:=by rw[<-Nat.succ_mul];exact wA s iV
 rw[bF,h.lA];omega
theorem aEP{E:α->I}(h:∀x,b6<|E x)(l:List α)(H:ab)(v:I)(H':ab)(U:v=.osl s H.length 1 0 l.length l.length)(hH:H'=H++[.cells 1 (aS E l)]):
  ∃H1 L y,H'=H1++L/\H.length<=H1.length/\(∀(i:Nat) (b:bE),H1[i]?=some b->H[i]?=some b\/ep H1.length b)/\cL H1.length H' v y/\y=.osl s H.length 1 0 l.length l.length/\H1=H++[.cells 1 (aS E l)]:=by
 subst U hH;exact⟨_,[],_,(cA _).symm,kk,FA λb J=>by(rw[dF]at J;subst J;exact KD h _ 1 l),.cl _<|.osl _ _ _ _ _ _ kk,rfl,rfl⟩
theorem aDY{Z X:List I}(h:Z.length=X.length):dq Z 0 X=X:=by simp[dq,h]
theorem nT.aRO{E:α->I}(h:nT E s)(x:α):(E x).cells.take s=(E x).cells:=by rw[<-h.n x,eG]
theorem nT.call{f:I}{E:α->I}{J:ab->Prop}{R:α->ab->I->ab->Prop}(h:nT E s)(U:∀x G,J G->kb P f [E x] G (R x G)):∀x G,J G->kb P f [.agg (E x).cells] G (R x G):=λx=>by rw[<-h.e];exact U x
theorem aIc{E:α->I}(h:nT E s){D F:List α}{j:Nat}(lJ:k<=j)(T:D.length=j)(K:D.take k=F)(z:I)(V:z.cells.length=s)(IB:b6 z):
  ∃rest,k=F.length/\dq (aS E D) (k * s) (List.flatMap I.cells<|List.replicate (j-k) z)=aS E F++rest/\rest.length=(j-F.length) * s/\∀x∈rest,b6 x:=by
 have hk:k=F.length:=by rw[<-K,eK];omega
 obtain⟨Z,O⟩:∃Z,Z=List.flatMap I.cells (List.replicate (j-k) z):=⟨_,rfl⟩;have U:Z.length=(j-k) * s:=by rw[O,Je (s:=s) (λe he=>by rw[(List.mem_replicate.1 he).2];exact V),zl]
 have e:=rS (A:=aS E F) (B:=aS E (D.drop k)) (off:=k * s) (X:=Z)<|by rw[h.lA,hk]
 rw[<-iR,<-K,pY]at e;rw[K,JX (by rw[h.lA,U,fT,T];exact bd _),cA]at e
 refine⟨Z,hk,by rw[<-O];exact e,by rw[U,hk],λx J=>?_⟩
 rw[O,u2]at J;obtain⟨y,aH,J⟩:=J;rw[(List.mem_replicate.1 aH).2]at J;exact b6.cells IB x J
end
theorem JM{E:α->I}(s K:Nat)(func:P.funcs[f]?=some F)(h:nT E s:=by exact⟨λ_=>rfl,λ_=>rfl,λ_=>nb,λ_=>rfl⟩)
  (t:∀(E:α->I) (J U:Nat),J=s->U=K->P.funcs[f]?=some F->nT E s->Df P f E s:=by
   intro E J U hs O func T b l hl H;refine tU func ?_;have fin:=aEP (s:=J) T.p l H;have Z:List.flatMap I.cells (l.map E)=aS E l:=rfl;repeat' first|(refine ae ?_;simp only[go_sem])|refine bt ?_|(refine bB ?_ ?_<;>intro h<;>try exact bA h)|fail
   intro c V;cases c with
   |true=>
    have z:l=[]:=by
     cases l with
     |nil=>rfl
     |cons x l=>exact absurd (V kk) l9
    subst z;repeat' first|(refine ae ?_;simp only[go_sem])|refine bt ?_|fail
    refine uv rfl (λ_=>?_) λh=>by cases h
    refine GX ?_;refine ud rfl ?_;simp only[go_sem];refine y2 2 J rfl ?_;subst hs;repeat' first|(refine ae ?_;simp only[go_sem])|refine bt ?_|(refine bB ?_ ?_<;>intro h<;>try exact bA h)|fail
    exact fin _ _ rfl rfl
   |false=>
    clear V;have jY:=b5<|TM T.n l;have jD:(l.length * U<=140737488355328)=True:=b5<|by subst O;omega
    subst hs O;repeat' first|(refine ae ?_;simp only[go_sem,jY,Z,jD,Classical.em,true_or])|refine bt ?_|(refine bB ?_ ?_<;>intro h<;>try exact bA h)|fail
    exact fin _ _ rfl rfl):Df P f E s:=t E s K rfl rfl func h
theorem G0{E:α->I}(s:Nat)(func:P.funcs[f]?=some F)(h:nT E s:=by exact⟨λ_=>rfl,λ_=>rfl,λ_=>nb,λ_=>rfl⟩)
  (t:∀(E:α->I) (U:Nat),U=s->P.funcs[f]?=some F->nT E s->tN P f E s:=by
   intro E U hs func J l p i v lc n af jm hl fn fs cs rest H K z;refine aZ func ?_;have Z:=J.lA l;rw[<-af]at Z;have c8:=J.dS af rest;have he:∀x,I.agg (E x).cells=E x:=λx=>(J.e x).symm
   repeat' first|(refine ae ?_;simp only[go_sem,K])|refine bt ?_|(refine bB ?_ ?_<;>intro h<;>try exact bA h)|fail
   refine cE (ι:=Nat) (λk=>[(0,.osl U i v 0 n lc),(1,.func fn fs cs),(7,.int .i64 n),(8,.int .i64 k)]) (λ_=>H) (λk=>k<=n/\∀q (hk:q<k) (ee:q<l.length),p l[q]=false) (λk=>n-k) 0 ⟨bW _,λq hk=>iV⟩ ?_ ?_ ?_
   ·subst hs;simp[go_sem]
   ·subst hs;rfl
   ·subst hs;rintro k ⟨hk,O⟩;by_cases T:k<l.length
    ·have ad:=Kn J.n T rest;have V:decide ((k:Int)<(n:Int))=true:=cK;have hw:=dA T iV
     repeat' first|(refine ae ?_;simp only[go_sem,K,V,ad,Z,he])|refine bt ?_|(refine bB ?_ ?_<;>intro h<;>try exact bA h)|fail
     refine Kk (z l[k]) ?_;simp only[go_sem];repeat' first|(refine ae ?_;simp only[go_sem])|refine bt ?_|(refine bB ?_ ?_<;>intro h<;>try exact bA h)|fail
     ·exact bD<|.of (by rw[FU p l k T (λq aJ=>O q aJ iV) (by assumption)])
     ·refine⟨k+1,⟨iV,λq aJ jE=>?_⟩,iV,bU _ hw⟩
      by_cases e:q=k
      ·subst e;assumption
      ·exact O q iV iV
    ·have cF:k=n:=iV
     subst cF;have V:decide ((k:Int)<(k:Int))=false:=kk
     repeat' first|(refine ae ?_;simp only[go_sem,K,V])|refine bt ?_|(refine bB ?_ ?_<;>intro h<;>try exact bA h)|fail
     exact bD<|.of (by rw[FV p l λq hk=>O q iV hk])):tN P f E s:=t E s rfl func h
theorem KU{g:FuncId}{E:α->I}(s:Nat)(zero:List I)(func:P.funcs[f]?=some F)(hi:tN P g E s)(h:nT E s:=by exact⟨λ_=>rfl,λ_=>rfl,λ_=>nb,λ_=>rfl⟩)(z:zero.length=s:=by rfl)(IB:b6 (.agg zero):=by simp only[go_sem])
  (t:∀(E:α->I) (j6:Nat) (O:List I),j6=s->O=zero->P.funcs[f]?=some F->nT E s->tN P g E s->O.length=s->b6 (.agg O)->Gy P f E s:=by
   intro E j6 O hs aT func U hi z IB l p i v lc n af jm hl fn fs cs kV QM Z6 H K ax aL;refine jw func ?_;have xd:=hi.o l p i v lc n af jm hl H K λx=>ax x H aL
   have T:=dk K trivial;have fU:=U.call ax;have aD:=U.o;have h8:=U.aRO;have yW:=λx=>aDY<|z.trans (U.n x).symm
   rw[aT]at yW;by_cases h1:eT p l= -1
   ·rw[h1]at xd;repeat' first|((first|refine jg xd ?_|refine ae ?_);simp only[go_sem,K,Int.reduceEq])|refine bt ?_|(refine bB ?_ ?_<;>intro h<;>try exact bA h)|fail
    refine⟨H,[],_,(cA _).symm,rfl,λk b hk=>.inl hk,.cl _<|.osl _ _ _ _ _ _ T,[],?_,?_,?_,λx h=>(by cases h)⟩
    ·rw[M0 h1,af]
    ·rw[M0 h1,cA];exact(lr K trivial).symm
    ·rw[M0 h1,af];simp
   ·obtain⟨A,x,B,rfl,al,aY,bu⟩:=Up h1;rw[al]at xd;have bZ:n=A.length+(B.length+1):=by simp[af]
    have hd:decide (((A.length:Nat):Int)= -1)=false:=cQ;have hw:IntKind.i64.wrap ((A.length:Int)+1)=((A.length+1:Nat):Int):=by rw[bI];rfl
    repeat' first|((first|refine jg xd ?_|refine ae ?_);simp only[go_sem,K,hd,hw])|refine bt ?_|(refine bB ?_ ?_<;>intro h<;>try exact bA h)|fail
    generalize hp:A++x::B=L at *;refine cE (ι:=Nat×Nat×List _×ab) (λq=>[(0,.osl j6 i v 0 n lc),(1,.func fn fs cs),(5,.int .i64 q.1),(6,.int .i64 q.2.1)])
     (λq=>ar H i (.cells v<|aS E q.2.2.1)++q.2.2.2) (λq=>q.1<q.2.1/\q.2.1<=n/\q.2.2.1.length=n/\q.2.2.1.take q.1=(L.take q.2.1).filter (λx=> !p x)/\q.2.2.1.drop q.2.1=L.drop q.2.1) (λq=>n-q.2.1) (A.length,A.length+1,L,[])
     ⟨kk,by simp only;omega,af.symm,?_,rfl⟩ ?_ (by rw[cA];exact(lr K trivial).symm) ?_
    ·simp only;rw[<-hp,x0,show A++x::B=(A++[x])++B by simp,show A.length+1=(A++[x]).length by simp,x0,wD,bu];simp[aY]
    ·subst hs;simp[go_sem]
    ·rintro⟨k,j,D,M⟩ ⟨cP,dE,V,Z,jM⟩;simp only at cP dE V Z jM ⊢;obtain⟨G,aW⟩:∃G,ar H i (.cells v<|aS E D)++M=G:=⟨_,rfl⟩;rw[aW];have g0:ay G i=.cells v (aS E D):=by rw[<-aW];exact b3 (b:=.cells v<|aS E D) (dR T _) trivial M
     have g1:=bC g0 trivial;have g2:=gN g0 trivial;have aNw:kV G:=by rw[<-aW];exact Z6 _ _<|QM _ _ aL
     have gs:∀X,ar G i X=ar H i X++M:=λX=>by rw[<-aW,hX (by rw[bc];exact T),jS]
     have cc:=U.lA D;rw[V]at cc;by_cases aq:j<n
     ·have bg:decide ((j:Int)<(n:Int))=true:=cK;have yK:j<L.length:=iV
      have QL:D[j]'(by omega)=L[j]:=by
       have a:=ij (l:=D) (i:=j) iV
       have b:=ij yK;rw[jM,b]at a;exact(Dq a).1.symm
      have Mc:=A1 U.n (D:=D) (k:=j) iV
      rw[QL]at Mc;have fH:IntKind.i64.wrap ((j:Int)+1)=((j+1:Nat):Int):=by rw[bI];rfl
      have dI:IntKind.i64.wrap ((k:Int)+1)=((k+1:Nat):Int):=by rw[bI];rfl
      have RL:=JL U.n (D:=D) (k:=k) iV L[j]
      have B6:L.take (j+1)=L.take j++[L[j]]:=fj yK;have Z2:=U.n;subst hs;repeat' first|(refine ae ?_;simp only[go_sem,g0,g1,bg,cc,Mc,Z2,aD,yW,h8])|refine bt ?_|(refine bB ?_ ?_<;>intro h<;>try exact bA h)|fail
      refine Kk (fU L[j] _ (Z6 _ _ aNw)) ?_;cases r5:p L[j]with
      |true=>
       simp only[go_sem];repeat' first|(refine ae ?_;simp only[go_sem])|refine bt ?_|(refine bB ?_ ?_<;>intro h<;>try exact bA h)|fail
       refine⟨(k,j+1,D,M++[.cells 0 (E L[j]).cells]),⟨by simp only;omega,by simp only;omega,V,?_,?_⟩,by simp only;omega,⟨rfl,bU _ fH⟩,?_⟩
       ·simp only;rw[B6,wD,<-Z,sE,aj<|by simp[r5]];simp
       ·simp only;have a:=ij (l:=D) (i:=j) iV
        have b:=ij yK;rw[jM,b]at a;exact(Dq a).2.symm
       ·show G++[.cells 0 (E L[j]).cells]=_;rw[<-aW,dr]
      |false=>
       simp only[go_sem];repeat' first|(refine ae ?_;simp only[go_sem,g0,g1,g2,cc,RL,Z2,aD,yW,h8])|refine bt ?_|(refine bB ?_ ?_<;>intro h<;>try exact bA h)|fail
       refine⟨(k+1,j+1,D.set k L[j],M++[.cells 0 (E L[j]).cells]),⟨by simp only;omega,by simp only;omega,by simp only[kB];exact V,?_,?_⟩,by simp only;omega,⟨bU _ dI,bU _ fH⟩,?_⟩
       ·simp only;rw[B6,wD,<-Z,sE,aA (by simp[r5]),fj nX,Ga,List.take_set_of_le<|bd _]
        rfl
       ·simp only;rw[List.drop_set_of_lt iV]
        have a:=ij (l:=D) (i:=j) iV
        have b:=ij yK;rw[jM,b]at a;exact(Dq a).2.symm
       ·show ar G i (.cells v<|aS E (D.set k L[j]))++[.cells 0 (E L[j]).cells]=_;rw[gs,dr]
     ·have q8:j=n:=iV
      subst q8;have bg:decide ((j:Int)<(j:Int))=false:=kk
      rw[af,eG]at Z;have xh:=aIc U (F:=L.filter λx=> !p x) (k:=k) (j:=j) (Nat.le_of_lt cP) V Z (.agg O) z IB
      subst hs;repeat' first|(refine ae ?_;simp only[go_sem,g0,g1,g2,bg,cc])|refine bt ?_|(refine bB ?_ ?_<;>intro h<;>try exact bA h)|fail
      obtain⟨rest,hk,az,pG,xj⟩:=xh;rw[<-aT,az,gs];have aNv:∀c,ay (ar H i (.cells v c)++M) i=.cells v c:=λc=>b3 (b:=.cells v c) (dR T _) trivial M
      simp only[aNv];refine⟨⟨trivial,iV,iV⟩,?_⟩
      repeat' first|(refine ae ?_;simp only[go_sem])|refine bt ?_|(refine bB ?_ ?_<;>intro h<;>try exact bA h)|fail
      refine⟨_,M,_,rfl,by rw[bc],pn ?_,.cl _<|.osl _ _ _ _ _ _ T,rest,by rw[hk],rfl,pG,xj⟩
      intro x J;rcases e4.1 J with J|J
      ·exact(y4 U.p _ x J).cl _
      ·exact(xj x J).cl _):Gy P f E s:=t E s zero rfl rfl func h hi z IB
theorem UY:Df prog 304 gL 2:=JM 2 32 func304
theorem Nf:Df prog 277 dn 4:=JM 4 48 func277
theorem aDn:yp prog 329 gL:=Hg 2 func329
theorem aId:Ec prog 307 gL:=Lk func307 aDn
theorem Un:yp prog 311 dn:=Hg 4 func311
theorem aIe:Ec prog 308 dn:=Lk func308 Un
theorem aG0:tN prog 329 gL 2:=G0 2 func329
theorem aG1:tN prog 311 dn 4:=G0 4 func311
theorem aG2:tN prog 330 bh 7:=G0 7 func330
theorem aIf:KS prog 330 bh 7:=aG2.o
theorem aIg:KT prog 309 gL 2:=(KU 2 [.int .i64 0,.sl true []] func309 aG0).o
theorem aIh:KT prog 310 dn 4:=(KU 4 [.int .i64 0,.int .i64 0,.sl true [],.bool false] func310 aG1).o
end Go.Proofs.YtnmamncmpklliaaGreatDoor

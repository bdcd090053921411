/- What functions answer. No condition. -/
import Derived.Test.YtnmamncmpklliaaGreatDoorWorkG
set_option linter.unusedSimpArgs false
set_option linter.unusedVariables false
set_option linter.unusedSectionVars false
set_option maxRecDepth 100000
set_option maxHeartbeats 16000000
namespace Go.Proofs.YtnmamncmpklliaaGreatDoor
variable{k s n i:Nat}{P:Program}{f:FuncId}{F:Func}{α:Type}{G A:ab}{d':cB}{e:Int}{v:I}
open Go.Proofs.Tryz
def aV{α:Type}(enc:α->I)(D:List α):List I:=(D.map enc).flatMap I.cells
section
variable {α:Type} {enc:α->I} {s:Nat}
theorem G5:aV enc []=[]:=rfl
theorem iP(A B:List α):aV enc (A++B)=aV enc A++aV enc B:=by simp[aV]
theorem p9(x:α)(B:List α):aV enc (x::B)=(enc x).cells++aV enc B:=by simp[aV]
theorem en(hs:∀x,(enc x).cells.length=s)(D:List α):(aV enc D).length=D.length * s:=by
 induction D with
 |nil=>simp[aV]
 |cons x D J=>rw[p9,bw,J,hs,cd,o2];omega
theorem aI5(hs:∀x,(enc x).cells.length=s){A R:List α}{x:α}(h:A.length=k):List.take s (List.drop (k * s)<|aV enc (A++x::R))=(enc x).cells:=by have hl:=en hs A;rw[h]at hl;rw[iP,<-hl,BI,p9,<-hs x,yn]
theorem Bt(hs:∀x,(enc x).cells.length=s){D:List α}(h:k<D.length):List.take s (List.drop (k * s)<|aV enc D)=(enc D[k]).cells:=by
 have e:D=D.take k++D[k]::D.drop (k+1):=by rw[<-ir h,sF]
 have:=aI5 hs (A:=D.take k) (R:=D.drop (k+1)) (x:=D[k]) (k:=k)<|by rw[gK];omega
 rwa[<-e]at this
theorem KE(hs:∀x,(enc x).cells.length=s){D:List α}(h:k<D.length)(y:α):du (aV enc D) (k * s) (enc y).cells=aV enc (D.set k y):=by
 have hl:=en hs<|D.take k;rw[gK,Nat.min_eq_left gf]at hl
 have e:D=D.take k++(D[k]::D.drop (k+1)):=by rw[<-ir h,sF]
 have J:=rW (A:=aV enc<|D.take k) (B:=aV enc (D[k]::D.drop (k+1))) (off:=k * s) (X:=(enc y).cells) hl;rw[<-iP,<-e]at J;rw[J,List.set_eq_take_append_cons_drop,aC h,iP,p9,p9,show(enc y).cells.length=(enc D[k]).cells.length by rw[hs,hs],BI]
theorem zD(ad:∀x,b9<|enc x)(D:List α):∀x∈aV enc D,b9 x:=λx J=>by unfold aV at J;rw[vf]at J;obtain⟨y,U,J⟩:=J;obtain⟨z, -,rfl⟩:=bP.1 U;exact b9.cells (ad z) x J
theorem LA(ad:∀x,b9<|enc x)(n v:Nat)(D:List α):ed n (.cells v<|aV enc D):=λx J=>(zD ad D x J).cl n
theorem N9{l:List α}{p:α->Bool}(h:e3 p l= -1):l.filter (λx=> !p x)=l:=by
 induction l with
 |nil=>rfl
 |cons x l J=>
  unfold e3 at h;by_cases ad:p x=true
  ·rw[aC ad]at h;cases h
  ·rw[ar ad]at h;split at h
   ·rename_i h1;rw[sG,aC (by simp[ad]),J h1]
   ·have:=HF p l;omega
theorem Xh{l:List α}{p:α->Bool}(h:e3 p l≠ -1):∃A x B,l=A++x::B/\e3 p l=A.length/\p x=true/\A.filter (λx=> !p x)=A:=by
 induction l with
 |nil=>exact absurd rfl h
 |cons x l J=>
  by_cases ad:p x=true
  ·exact⟨[],x,l,rfl,by simp[e3,ad],ad,rfl⟩
  ·unfold e3 at h ⊢;rw[ar ad]at h ⊢;by_cases h1:e3 p l= -1
   ·rw[aC h1]at h;exact absurd rfl h
   ·rw[ar h1];obtain⟨A,y,B,ax,U,aU,bf⟩:=J h1;exact⟨x::A,y,B,by rw[ax];rfl,by rw[U];simp,aU,by rw[sG,aC (by simp[ad]),bf]⟩
theorem LL(hs:∀x,(enc x).cells.length=s){D:List α}(h:k<D.length)(rest:List I):List.take s (List.drop (k * s)<|aV enc D++rest)=(enc D[k]).cells:=by
 have hl:=en hs D;have h2:k * s+s<=D.length * s:=by rw[<-Nat.succ_mul];exact wT s h
 rw[List.drop_append_of_le_length gf,List.take_append_of_le_length (by rw[hp];omega),Bt hs h]
theorem nJ.uv{E:α->I}(h:nJ E s)(D:List α):(aV E D).length=D.length * s:=en h.n D
def DX(P:Program)(f:FuncId)(E:α->I)(s:Nat):Prop:=∀(b:Bool) (l:List α),l.length<=1073741824->∀H,cV P f [.sl b (l.map E)] H (λv H'=>v=.osl s H.length 1 0 l.length l.length/\H'=H++[.cells 1 (aV E l)])
def tW(P:Program)(f:FuncId)(E:α->I)(s:Nat):Prop:=∀(l:List α) (p:α->Bool) (i v lc n:Nat),n=l.length->n<=lc->n<=1073741824->∀{fn:Fn} {fs cs:List I} (rest:List I) (H:ab),az H i=.cells v (aV E l++rest)->
 (∀x,kb P (.func fn fs cs) [E x] H (λr dC=>r=.bool (p x)/\dC=H))->aO P f [.osl s i v 0 n lc,.func fn fs cs] H (.int .i64<|e3 p l)
def Hu(P:Program)(f:FuncId)(E:α->I)(s:Nat):Prop:=∀(l:List α) (p:α->Bool) (i v lc n:Nat),n=l.length->n<=lc->n<=1073741824->∀{fn:Fn} {fs cs:List I} (kU:ab->Prop),(∀G b,kU G->kU (an G i b))->(∀G L,kU G->kU (G++L))->∀H,az H i=.cells v (aV E l)->
 (∀x G,kU G->kb P (.func fn fs cs) [E x] G (λr dC=>r=.bool (p x)/\dC=G))->kU H->
 cV P f [.osl s i v 0 n lc,.func fn fs cs] H (λr H'=>∃rest,r=.osl s i v 0 (l.filter λx=> !p x).length lc/\H'=an H i (.cells v<|aV E (l.filter (λx=> !p x))++rest)/\rest.length=(n-(l.filter (λx=> !p x)).length) * s/\∀x∈rest,b9 x)
def LQ(P:Program)(f:FuncId)(E:α->I)(s:Nat):Prop:=∀(l:List α) (p:α->Bool) (i v lc n:Nat),n=l.length->n<=lc->n<=1073741824->∀{fn:Fn} {fs cs:List I} (H:ab),az H i=.cells v (aV E l)->
 (∀x,kb P (.func fn fs cs) [E x] H (λr dC=>r=.bool (p x)/\dC=H))->aO P f [.osl s i v 0 n lc,.func fn fs cs] H (.int .i64<|e3 p l)
def LM(P:Program)(f:FuncId)(E:α->I)(s:Nat):Prop:=∀(l:List α) (p:α->Bool) (i v lc n:Nat),n=l.length->n<=lc->n<=1073741824->∀{fn:Fn} {fs cs:List I} (kU:ab->Prop),(∀G b,kU G->kU (an G i b))->(∀G L,kU G->kU (G++L))->∀H,az H i=.cells v (aV E l)->
 (∀x G,kU G->kb P (.func fn fs cs) [E x] G (λr dC=>r=.bool (p x)/\dC=G))->kU H->
 cV P f [.osl s i v 0 n lc,.func fn fs cs] H (λr H'=>∃rest,r=.osl s i v 0 (l.filter λx=> !p x).length lc/\H'=an H i (.cells v<|aV E (l.filter (λx=> !p x))++rest))
theorem Hu.o{E:α->I}(h:Hu P f E s):LM P f E s:=λl p i v lc n a b c _ _ _ J g1 g2 H U K O=>(h l p i v lc n a b c J g1 g2 H U K O).mono λ_ _ ⟨r,S,T,_⟩=>⟨r,S,T⟩
theorem tW.o{E:α->I}(h:tW P f E s):LQ P f E s:=λl p i v lc n a b c _ _ _ H J U=>h l p i v lc n a b c [] H (by rw[cE];exact J) U
theorem nJ.ec{E:α->I}(h:nJ E s){l:List α}(af:n=l.length)(rest:List I):∀k,k<n->k * s+s<=(aV E l++rest).length:=λk hk=>by
 have h2:k * s+s<=l.length * s:=by rw[<-Nat.succ_mul];exact wT s gf
 rw[bw,h.uv];omega
theorem aFT{E:α->I}(h:∀x,b9<|E x)(l:List α)(H:ab)(v:I)(H':ab)(U:v=.osl s H.length 1 0 l.length l.length)(hH:H'=H++[.cells 1 (aV E l)]):
  ∃H1 L y,H'=H1++L/\H.length<=H1.length/\(∀(i:Nat) (b:bD),H1[i]?=some b->H[i]?=some b\/ed H1.length b)/\cJ H1.length H' v y/\y=.osl s H.length 1 0 l.length l.length/\H1=H++[.cells 1 (aV E l)]:=by
 subst U hH;exact⟨_,[],_,(cE _).symm,hW,G1 λb J=>by(rw[dH]at J;subst J;exact LA h _ 1 l),.cl _<|.osl _ _ _ _ _ _ hW,rfl,rfl⟩
theorem aEU{Z X:List I}(h:Z.length=X.length):du Z 0 X=X:=by simp[du,h]
theorem nJ.aSy{E:α->I}(h:nJ E s)(x:α):(E x).cells.take s=(E x).cells:=by rw[<-h.n x,fe]
theorem nJ.call{f:I}{E:α->I}{J:ab->Prop}{R:α->ab->I->ab->Prop}(h:nJ E s)(U:∀x G,J G->kb P f [E x] G (R x G)):∀x G,J G->kb P f [.agg (E x).cells] G (R x G):=λx=>by rw[<-h.e];exact U x
theorem aI6{E:α->I}(h:nJ E s){D F:List α}{j:Nat}(lJ:k<=j)(S:D.length=j)(K:D.take k=F)(z:I)(T:z.cells.length=s)(V:b9 z):
  ∃rest,k=F.length/\du (aV E D) (k * s) (List.flatMap I.cells<|List.replicate (j-k) z)=aV E F++rest/\rest.length=(j-F.length) * s/\∀x∈rest,b9 x:=by
 have hk:k=F.length:=by rw[<-K,gK];omega
 obtain⟨Z,O⟩:∃Z,Z=List.flatMap I.cells (List.replicate (j-k) z):=⟨_,rfl⟩;have U:Z.length=(j-k) * s:=by rw[O,J9 (s:=s) (λe he=>by rw[(List.mem_replicate.1 he).2];exact T),zI]
 have e:=rW (A:=aV E F) (B:=aV E (D.drop k)) (off:=k * s) (X:=Z)<|by rw[h.uv,hk]
 rw[<-iP,<-K,sF]at e;rw[K,List.drop_eq_nil_of_le (by rw[h.uv,U,hp,S];exact bh _),cE]at e
 refine⟨Z,hk,by rw[<-O];exact e,by rw[U,hk],λx J=>?_⟩
 rw[O,vf]at J;obtain⟨y,aJ,J⟩:=J;rw[(List.mem_replicate.1 aJ).2]at J;exact b9.cells V x J
end
theorem HJ{E:α->I}(s J:Nat)(func:P.funcs[f]?=some F)(h:nJ E s:=by exact⟨λ_=>rfl,λ_=>rfl,λ_=>mZ,λ_=>rfl⟩)
  (t:∀(E:α->I) (U K:Nat),U=s->K=J->P.funcs[f]?=some F->nJ E s->DX P f E s:=by
   intro E U K hs O func S b l hl H;refine uf func ?_;have fin:=aFT (s:=U) S.p l H;have V:List.flatMap I.cells (l.map E)=aV E l:=rfl;repeat' first|(refine ae ?_;simp only[go_sem])|refine bp ?_|(refine bz ?_ ?_<;>intro h<;>try exact bx h)|fail
   intro c T;cases c with
   |true=>
    have Z:l=[]:=by
     cases l with
     |nil=>rfl
     |cons x l=>exact absurd (T hW) ko
    subst Z;repeat' first|(refine ae ?_;simp only[go_sem])|refine bp ?_|fail
    refine kA rfl (λ_=>?_) λh=>p2 h;refine HR ?_;refine uu rfl ?_;simp only[go_sem];refine xU 2 U rfl ?_;subst hs;repeat' first|(refine ae ?_;simp only[go_sem])|refine bp ?_|(refine bz ?_ ?_<;>intro h<;>try exact bx h)|fail
    exact fin _ _ rfl rfl
   |false=>
    clear T;have z:=b1<|Um S.n l;have iA:(l.length * K<=140737488355328)=True:=b1<|by subst O;omega
    subst hs O;repeat' first|(refine ae ?_;simp only[go_sem,z,V,iA,Classical.em,true_or])|refine bp ?_|(refine bz ?_ ?_<;>intro h<;>try exact bx h)|fail
    exact fin _ _ rfl rfl):DX P f E s:=t E s J rfl rfl func h
theorem H9{E:α->I}(s:Nat)(func:P.funcs[f]?=some F)(h:nJ E s:=by exact⟨λ_=>rfl,λ_=>rfl,λ_=>mZ,λ_=>rfl⟩)
  (t:∀(E:α->I) (U:Nat),U=s->P.funcs[f]?=some F->nJ E s->tW P f E s:=by
   intro E U hs func J l p i v lc n af jv hl fn fs cs rest H K Z;refine bg func ?_;have V:=J.uv l;rw[<-af]at V;have cH:=J.ec af rest;have he:∀x,I.agg (E x).cells=E x:=λx=>(J.e x).symm;repeat' first|(refine ae ?_;simp only[go_sem,K])|refine bp ?_|(refine bz ?_ ?_<;>intro h<;>try exact bx h)|fail
   refine c7 (ι:=Nat) (λk=>[(0,.osl U i v 0 n lc),(1,.func fn fs cs),(7,.int .i64 n),(8,.int .i64 k)]) (λ_=>H) (λk=>k<=n/\∀q (hk:q<k) (ew:q<l.length),p l[q]=false) (λk=>n-k) 0 ⟨cb _,λq hk=>gf⟩ ?_ ?_ ?_
   ·subst hs;simp[go_sem]
   ·subst hs;rfl
   ·subst hs;rintro k ⟨hk,O⟩;by_cases S:k<l.length
    ·have ad:=LL J.n S rest;have T:decide ((k:Int)<(n:Int))=true:=cS;have hw:=eb S gf;repeat' first|(refine ae ?_;simp only[go_sem,K,T,ad,V,he])|refine bp ?_|(refine bz ?_ ?_<;>intro h<;>try exact bx h)|fail
     refine Lb (Z l[k]) ?_;simp only[go_sem];repeat' first|(refine ae ?_;simp only[go_sem])|refine bp ?_|(refine bz ?_ ?_<;>intro h<;>try exact bx h)|fail
     ·exact bJ<|.of (by rw[G2 p l k S (λq aM=>O q aM gf) (by assumption)])
     ·refine⟨k+1,⟨gf,λq aM jO=>?_⟩,gf,b7 _ hw⟩;by_cases e:q=k
      ·subst e;assumption
      ·exact O q gf gf
    ·have z:k=n:=gf;subst z;have T:decide ((k:Int)<(k:Int))=false:=hW;repeat' first|(refine ae ?_;simp only[go_sem,K,T])|refine bp ?_|(refine bz ?_ ?_<;>intro h<;>try exact bx h)|fail
     exact bJ<|.of (by rw[G3 p l λq hk=>O q gf hk])):tW P f E s:=t E s rfl func h
theorem LR{g:FuncId}{E:α->I}(s:Nat)(zero:List I)(func:P.funcs[f]?=some F)(hi:tW P g E s)(h:nJ E s:=by exact⟨λ_=>rfl,λ_=>rfl,λ_=>mZ,λ_=>rfl⟩)(F8:zero.length=s:=by rfl)(Jx:b9 (.agg zero):=by simp only[go_sem])
  (t:∀(E:α->I) (oY:Nat) (O:List I),oY=s->O=zero->P.funcs[f]?=some F->nJ E s->tW P g E s->O.length=s->b9 (.agg O)->Hu P f E s:=by
   intro E oY O hs a1 func U hi F8 Jx l p i v lc n af jv hl fn fs cs kU Ro S H K aA aP;refine h9 func ?_;have xC:=hi.o l p i v lc n af jv hl H K λx=>aA x H aP;have T:=cZ K trivial;have gb:=U.call aA;have aD:=U.o;have ik:=U.aSy;have ze:=λx=>aEU<|F8.trans (U.n x).symm
   rw[a1]at ze;by_cases h1:e3 p l= -1
   ·rw[h1]at xC;repeat' first|((first|refine hI xC ?_|refine ae ?_);simp only[go_sem,K,Int.reduceEq])|refine bp ?_|(refine bz ?_ ?_<;>intro h<;>try exact bx h)|fail
    refine⟨H,[],_,(cE _).symm,rfl,λk b hk=>.inl hk,.cl _<|.osl _ _ _ _ _ _ T,[],?_,?_,?_,λx h=>(p2 h)⟩
    ·rw[N9 h1,af]
    ·rw[N9 h1,cE];exact(kf K trivial).symm
    ·rw[N9 h1,af];simp
   ·obtain⟨A,x,B,rfl,aq,aU,bf⟩:=Xh h1;rw[aq]at xC;have cc:n=A.length+(B.length+1):=by simp[af]
    have hd:decide (((A.length:Nat):Int)= -1)=false:=dA;have hw:IntKind.i64.wrap ((A.length:Int)+1)=((A.length+1:Nat):Int):=by rw[bS];rfl
    repeat' first|((first|refine hI xC ?_|refine ae ?_);simp only[go_sem,K,hd,hw])|refine bp ?_|(refine bz ?_ ?_<;>intro h<;>try exact bx h)|fail
    generalize gW:A++x::B=L at *;refine c7 (ι:=Nat×Nat×List _×ab) (λq=>[(0,.osl oY i v 0 n lc),(1,.func fn fs cs),(5,.int .i64 q.1),(6,.int .i64 q.2.1)])
     (λq=>an H i (.cells v<|aV E q.2.2.1)++q.2.2.2) (λq=>q.1<q.2.1/\q.2.1<=n/\q.2.2.1.length=n/\q.2.2.1.take q.1=(L.take q.2.1).filter (λx=> !p x)/\q.2.2.1.drop q.2.1=L.drop q.2.1) (λq=>n-q.2.1) (A.length,A.length+1,L,[])
     ⟨hW,by simp only;omega,af.symm,?_,rfl⟩ ?_ (by rw[cE];exact(kf K trivial).symm) ?_
    ·simp only;rw[<-gW,yn,show A++x::B=(A++[x])++B by simp,show A.length+1=(A++[x]).length by simp,yn,wS,bf];simp[aU]
    ·subst hs;simp[go_sem]
    ·rintro⟨k,j,D,M⟩ ⟨c5,cY,V,Z,e5⟩;simp only at c5 cY V Z e5 ⊢;obtain⟨G,a7⟩:∃G,an H i (.cells v<|aV E D)++M=G:=⟨_,rfl⟩;rw[a7];have g0:az G i=.cells v (aV E D):=by rw[<-a7];exact bX (b:=.cells v<|aV E D) (dK T _) trivial M
     have g1:=bE g0 trivial;have g2:=hU g0 trivial;have aOf:kU G:=by rw[<-a7];exact S _ _<|Ro _ _ aP
     have gs:∀X,an G i X=an H i X++M:=λX=>by rw[<-a7,gU (by rw[bc];exact T),jd]
     have bR:=U.uv D;rw[V]at bR;by_cases au:j<n
     ·have bl:decide ((j:Int)<(n:Int))=true:=cS;have y4:j<L.length:=gf;have Rn:D[j]'(by omega)=L[j]:=by
       have a:=ir (l:=D) (i:=j) gf;have b:=ir y4;rw[e5,b]at a;exact(DU a).1.symm
      have MS:=Bt U.n (D:=D) (k:=j) gf;rw[Rn]at MS;have dw:IntKind.i64.wrap ((j:Int)+1)=((j+1:Nat):Int):=by rw[bS];rfl
      have dQ:IntKind.i64.wrap ((k:Int)+1)=((k+1:Nat):Int):=by rw[bS];rfl
      have Ss:=KE U.n (D:=D) (k:=k) gf L[j];have Cs:L.take (j+1)=L.take j++[L[j]]:=hc y4;have z:=U.n;subst hs;repeat' first|(refine ae ?_;simp only[go_sem,g0,g1,bl,bR,MS,z,aD,ze,ik])|refine bp ?_|(refine bz ?_ ?_<;>intro h<;>try exact bx h)|fail
      refine Lb (gb L[j] _ (S _ _ aOf)) ?_;cases r3:p L[j]with
      |true=>
       simp only[go_sem];repeat' first|(refine ae ?_;simp only[go_sem])|refine bp ?_|(refine bz ?_ ?_<;>intro h<;>try exact bx h)|fail
       refine⟨(k,j+1,D,M++[.cells 0 (E L[j]).cells]),⟨by simp only;omega,by simp only;omega,V,?_,?_⟩,by simp only;omega,⟨rfl,b7 _ dw⟩,?_⟩
       ·simp only;rw[Cs,wS,<-Z,sG,ar<|by simp[r3]];simp
       ·simp only;have a:=ir (l:=D) (i:=j) gf;have b:=ir y4;rw[e5,b]at a;exact(DU a).2.symm
       ·show G++[.cells 0 (E L[j]).cells]=_;rw[<-a7,c6]
      |false=>
       simp only[go_sem];repeat' first|(refine ae ?_;simp only[go_sem,g0,g1,g2,bR,Ss,z,aD,ze,ik])|refine bp ?_|(refine bz ?_ ?_<;>intro h<;>try exact bx h)|fail
       refine⟨(k+1,j+1,D.set k L[j],M++[.cells 0 (E L[j]).cells]),⟨by simp only;omega,by simp only;omega,by simp only[kx];exact V,?_,?_⟩,by simp only;omega,⟨b7 _ dQ,b7 _ dw⟩,?_⟩
       ·simp only;rw[Cs,wS,<-Z,sG,aC (by simp[r3]),hc nc,Hc,List.take_set_of_le<|bh _]
        rfl
       ·simp only;rw[List.drop_set_of_lt gf];have a:=ir (l:=D) (i:=j) gf;have b:=ir y4;rw[e5,b]at a;exact(DU a).2.symm
       ·show an G i (.cells v<|aV E (D.set k L[j]))++[.cells 0 (E L[j]).cells]=_;rw[gs,c6]
     ·have tb:j=n:=gf;subst tb;have bl:decide ((j:Int)<(j:Int))=false:=hW;rw[af,fe]at Z;have xK:=aI6 U (F:=L.filter λx=> !p x) (k:=k) (j:=j) (Nat.le_of_lt c5) V Z (.agg O) F8 Jx;subst hs;repeat' first|(refine ae ?_;simp only[go_sem,g0,g1,g2,bl,bR])|refine bp ?_|(refine bz ?_ ?_<;>intro h<;>try exact bx h)|fail
      obtain⟨rest,hk,aw,te,CW⟩:=xK;rw[<-a1,aw,gs];have aOe:∀c,az (an H i (.cells v c)++M) i=.cells v c:=λc=>bX (b:=.cells v c) (dK T _) trivial M;simp only[aOe];refine⟨⟨trivial,gf,gf⟩,?_⟩;repeat' first|(refine ae ?_;simp only[go_sem])|refine bp ?_|(refine bz ?_ ?_<;>intro h<;>try exact bx h)|fail
      refine⟨_,M,_,rfl,by rw[bc],ns ?_,.cl _<|.osl _ _ _ _ _ _ T,rest,by rw[hk],rfl,te,CW⟩
      intro x J;rcases fH.1 J with J|J
      ·exact(zD U.p _ x J).cl _
      ·exact(CW x J).cl _):Hu P f E s:=t E s zero rfl rfl func h hi F8 Jx
theorem ZE:DX prog 304 jj 2:=HJ 2 32 func304
theorem Ma:DX prog 277 dY 4:=HJ 4 48 func277
theorem aEc:yI prog 329 jj:=Ij 2 func329
theorem aLY:EF prog 307 jj:=LZ func307 aEc
theorem Wq:yI prog 311 dY:=Ij 4 func311
theorem aLZ:EF prog 308 dY:=LZ func308 Wq
theorem aHX:tW prog 329 jj 2:=H9 2 func329
theorem aHY:tW prog 311 dY 4:=H9 4 func311
theorem aHZ:tW prog 330 bt 7:=H9 7 func330
theorem aL0:LQ prog 330 bt 7:=aHZ.o
theorem aL1:LM prog 309 jj 2:=(LR 2 [.int .i64 0,.sl true []] func309 aHX).o
theorem aL2:LM prog 310 dY 4:=(LR 4 [.int .i64 0,.int .i64 0,.sl true [],.bool false] func310 aHY).o
theorem od{j:Nat}(h1:i<G.length)(h2:j<G.length)(K:i<j)(af:G.length=n):
  (∀L X,an (G++L) i X=an G i X++L)/\(∀L X,an (G++L) j X=an G j X++L)/\(∀v X,az (an G i<|.cells v X) i=.cells v X)/\(∀v X L,az (an G i (.cells v X)++L) i=.cells v X)/\(∀X Y,an (an G i X) i Y=an G i Y)/\
  (∀X Y L,an (an G i X++L) i Y=an G i Y++L)/\(∀X Y,an (an G i X) j Y=an (an G j Y) i X)/\(∀X Y L,an (an G i X++L) j Y=an (an G j Y) i X++L)/\(∀v X Y L,az (an (an G j Y) i (.cells v X)++L) i=.cells v X)/\
  (∀X v Y L,az (an (an G j<|.cells v Y) i X++L) j=.cells v Y)/\(∀X Y Z L,an (an (an G j Y) i X++L) i Z=an (an G j Y) i Z++L)/\(∀X Y Z L,an (an (an G j Y) i X++L) j Z=an (an G j Z) i X++L)/\
  (∀X L,az (an G i X++L) n=L.getD 0 .gone)/\(∀X L k,az (an G i X++L) (n+k)=L.getD k .gone)/\(∀X Y L,az (an (an G j Y) i X++L) n=L.getD 0 .gone)/\(∀X Y L k,az (an (an G j Y) i X++L) (n+k)=L.getD k .gone)/\
  (∀X Y L,an (an G i X++L) n Y=an G i X++L.set 0 Y)/\(∀X Y L k,an (an G i X++L) (n+k) Y=an G i X++L.set k Y)/\(∀v Y L,az (an G j (.cells v Y)++L) j=.cells v Y)/\(∀X Y L,an (an G j Y++L) i X=an (an G j Y) i X++L)/\
  (∀L,az (G++L) n=L.getD 0 .gone)/\(∀L k,az (G++L) (n+k)=L.getD k .gone)/\(∀Y L,an (G++L) n Y=G++L.set 0 Y)/\(∀Y L k,an (G++L) (n+k) Y=G++L.set k Y):=by
 subst af;have J:∀X,(an G i X).length=G.length:=λX=>bc _ _ _;have fr:∀X Y,(an (an G j Y) i X).length=G.length:=λX Y=>by rw[bc,bc]
 have U:∀Y,(an G j Y).length=G.length:=λX=>bc _ _ _;have ne:j≠i:=gf;refine⟨λL X=>gU h1 L X,λL X=>gU h2 L X,λv X=>dK h1 _,λv X L=>bX (b:=.cells v X) (dK h1 _) trivial L,λX Y=>jd _ _ _ _,λX Y L=>?_,λX Y=>?_,λX Y L=>?_,λv X Y L=>?_,λX v Y L=>?_,λX Y Z L=>?_,λX Y Z L=>?_,
  λX L=>tl<|J X,λX L k=>?_,λX Y L=>tl<|fr X Y,λX Y L k=>?_,λX Y L=>On (J X) Y,λX Y L k=>GS (J X) Y,λv Y L=>bX (b:=.cells v Y) (dK h2 _) trivial L,λX Y L=>gU (by rw[U];exact h1) L X,
  λL=>uP _ _,λL k=>Bn _ _ _,λY L=>O0 _ _ _,λY L k=>Ll _ _ _ _⟩
 ·rw[gU (by rw[J];exact h1),jd]
 ·rw[sW _ _ _ gf]
 ·rw[gU (by rw[J];exact h2),sW _ _ _ gf]
 ·exact bX (b:=.cells v X) (dK (by rw[U];exact h1) _) trivial L
 ·exact bX (b:=.cells v Y) (bN (dK h2 _) gf _) trivial L
 ·rw[gU (by rw[fr];exact h1),jd]
 ·rw[gU (by rw[fr];exact h2),sW (an G j Y) _ _ gf,jd]
 ·rw[<-J X];exact Bn _ _ _
 ·rw[<-fr X Y];exact Bn _ _ _
theorem aXG(k:Nat)(l:List bk):∀x∈aV bt l,cN k x:=λx J=>(zD (λx=>mZ) l x J).cl k
def fN(j:Nat)(c:cg)(d:cB):List I:=
 [.sl false (d.m.log.entries.map dT),.sl false<|d.m.log.nodes.map bj,.int .i64 d.m.seen,.int .i64 d.m.rep,.sl false<|d.m.dh.map jj,.sl false<|d.m.cq.map dY,.int .i64 d.m.next,
  .int .i64 d.a.err,.str d.a.data,.sl false<|d.a.names.map I.str,.int .i64 d.a.n,.sl false<|d.a.events.map dt,
  .int .i64 c.kind,.str c.path,.str c.to,.str c.data,.int .i64 c.n,.osl 7 j (d.ops.length+1) 0 d.ops.length d.ops.length]
structure gL (i j:Nat) (c:cg) (d:cB) (G:ab):Prop where
 ne:i<j
 aW:az G i=.cells 0 (fN j c d)
 bA:az G j=.cells (d.ops.length+1) (aV bt d.ops)
def gC(G:ab)(i j:Nat)(c:cg)(d:cB):ab:=an (an G j (.cells (d.ops.length+1) (aV bt d.ops))) i<|.cells 0 (fN j c d)
theorem Ia(G:ab)(i j:Nat)(c:cg)(d:cB):(gC G i j c d).length=G.length:=by unfold gC;rw[bc,bc]
section
variable {i j:Nat} {c:cg} {d:cB} {G:ab} (h:gL i j c d G)
include h
theorem gL.eV:i<G.length:=cZ h.aW trivial
theorem gL.fF:j<G.length:=cZ h.bA trivial
theorem gL.own:gC G i j c d=G:=by unfold gC;rw[kf h.bA trivial,kf h.aW trivial]
theorem gL.app(L:ab):gL i j c d (G++L):=⟨h.ne,bX h.aW trivial L,bX h.bA trivial L⟩
theorem gL.pV(d':cB)(L:ab):gC (G++L) i j c d'=gC G i j c d'++L:=by unfold gC;rw[gU h.fF,gU<|by rw[bc];exact h.eV]
theorem gL.put(d':cB):gL i j c d' (gC G i j c d'):=by
 have J:¬j=i:=oC h.ne;refine⟨h.ne,dK (by rw[bc];exact h.eV) _,?_⟩
 unfold gC;rw[sW _ _ _ J];exact dK (by rw[bc];exact h.fF) _
theorem gL.sq(d1 d2:cB):gC (gC G i j c d1) i j c d2=gC G i j c d2:=by have J:¬j=i:=oC h.ne;unfold gC;rw[sW (an G j _) _ _ (λe=>J e.symm),jd,jd]
theorem gL.a6:∀X L,az (an G i X++L) j=.cells (d.ops.length+1) (aV bt d.ops):=λX L=>bX (bN h.bA (oC h.ne) X) trivial L
theorem gL.bb:∀X,az (an G i X) j=.cells (d.ops.length+1) (aV bt d.ops):=λX=>bN h.bA (oC h.ne) X
theorem gL.one(J:d'.ops=d.ops):an G i (.cells 0<|fN j c d')=gC G i j c d':=by unfold gC;rw[J,kf h.bA trivial]
end
theorem EX(k:Nat)(b:Bool)(l:List aH):cN k (.sl b<|l.map bj):=(b9.sl b _ λx J=>by obtain⟨y, -,rfl⟩:=bP.1 J;simp only[go_sem]).cl k
theorem EY(k:Nat)(b:Bool)(l:List gr):cN k (.sl b<|l.map dT):=(b9.sl b _ λx J=>by obtain⟨y, -,rfl⟩:=bP.1 J;simp only[go_sem]).cl k
theorem EZ(k:Nat)(b:Bool)(l:List Ec):cN k (.sl b<|l.map jj):=(b9.sl b _ λx J=>by obtain⟨y, -,rfl⟩:=bP.1 J;simp only[go_sem]).cl k
theorem E0(k:Nat)(b:Bool)(l:List o5):cN k (.sl b<|l.map dY):=(b9.sl b _ λx J=>by obtain⟨y, -,rfl⟩:=bP.1 J;simp only[go_sem]).cl k
theorem E1(k:Nat)(b:Bool)(l:List al):cN k (.sl b<|l.map I.str):=(b9.sl b _ λx J=>by obtain⟨y, -,rfl⟩:=bP.1 J;exact .str _).cl k
theorem E2(k:Nat)(b:Bool)(l:List e7):cN k (.sl b<|l.map dt):=(b9.sl b _ λx J=>by obtain⟨y, -,rfl⟩:=bP.1 J;simp only[dt,go_sem]).cl k
theorem aLH{j:Nat}(U:j<n)(c:cg)(d:cB):ed n (.cells 0<|fN j c d):=λx J=>by simp only[fN,db,mh,mj]at J;rcases J with rfl|rfl|rfl|rfl|rfl|rfl|rfl|rfl|rfl|rfl|rfl|rfl|rfl|rfl|rfl|rfl|rfl|rfl;all_goals first|exact .int _ _|exact .str _|exact EY _ _ _|exact EX _ _ _|exact EZ _ _ _|exact E0 _ _ _|exact E1 _ _ _|exact E2 _ _ _|exact .osl _ _ _ _ _ _ U
theorem uX{j:Nat}{c:cg}{d:cB}{L:ab}(h:gL i j c d G)(J:v=.int .i64 e)(U:A=gC G i j c d'):
  ∃H1 K y,A++L=H1++K/\H1.length=G.length/\(∀(k:Nat) (b:bD),H1[k]?=some b->G[k]?=some b\/ed G.length b)/\cJ G.length (A++L) v y/\(y=.int .i64 e/\H1=gC G i j c d'):=by
 subst J;subst U;refine⟨_,L,_,rfl,Ia _ _ _ _ _,λk b hk=>?_,.cl _<|.int _ _,rfl,rfl⟩
 unfold gC at hk;rcases ns (aLH h.fF c d') k b hk with hk|hk
 ·exact ns (LA (enc:=bt) (λx=>mZ) G.length (d'.ops.length+1) d'.ops) k b hk
 ·exact .inr hk
theorem jX{j:Nat}{c:cg}{d:cB}(h:gL i j c d G)(J:v=.int .i64 e)(U:A=gC G i j c d'):
  ∃H1 K y,A=H1++K/\H1.length=G.length/\(∀(k:Nat) (b:bD),H1[k]?=some b->G[k]?=some b\/ed G.length b)/\cJ G.length A v y/\(y=.int .i64 e/\H1=gC G i j c d'):=by
 have:=uX (L:=[]) h J U;rwa[cE]at this
def rP(P:Program)(f:FuncId)(i j:Nat)(c:cg)(r:Int×cB)(G:ab):Prop:=cV P f [.ref i 0 0] G (λv H'=>v=.int .i64 r.1/\H'=gC G i j c r.2)
def HG(o:Option (List aH)):I:=match o with
 |none=>.aN [.sl true [],.int .i64 191]
 |some l=>.aN [.sl false (l.map bj),.int .i64 0]
def EE(r:Int×al×Int):I:=.aN [.int .i64 r.1,.str r.2.1,.int .i64 r.2.2]
structure oo (m:di):Prop where
 nodes:m.log.nodes.length<=1000000
 c8:m.log.entries.length<=1000000
 ops:∀e∈m.log.entries,hR e.op
 dh:m.dh.length<=1000000
 cq:m.cq.length<=1000000
 snap:∀s∈m.dh,s.nodes.length<=1000000
 b2:∀w∈m.cq,w.b2.length<=1000000
def NJ:List cK:=[.aQ,.ah 0,.ah 0,.ah 0,.ah 0,.aQ,.ah 0,.ah 0,.ah 0,.ah 0,.ah 0,.aQ,.aQ,.aQ,.bW [true,true,true,true,true,true,true,true,true],.bW [],.aQ]
def TY:List cK:=[.aQ,.ah 0,.ah 0,.ah 0,.ah 0,.ah 0,.ah 0,.aQ,.aQ,.aQ,.bW [true,true,true,true,true,true],.bW [],.aQ]
def T0:List cK:=[.aQ,.aQ,.ah 0,.ah 0,.ah 0,.ah 0,.aQ,.bW [true,false,true,true],.ah 0,.ah 0,.bW [false,true]]
attribute [go_sem] NJ TY T0
theorem EL(b:Bool)(l:List aH)(p:al)(hl:l.length<=1073741824)(ad:p.length<=1048576)(H:ab):aO prog 300 [.sl b (l.map bj),.str p] H (u4<|ft l p):=by
 refine bg func300 ?_;have hs:=Hm p ad;unfold ft;cases af:gD p with
 |none=>
  simp only[lB,af]at hs;repeat' first|(refine ae ?_;simp only[go_sem])|refine ai ?_|fail
  exact bJ<|.refl _
 |some J=>
  simp only[lB,af]at hs;have U:=KD b (decide<|p=[47]) l J hl;simp only[u4]at U;repeat' first|(refine ae ?_;simp only[go_sem])|refine ai ?_|fail
  exact bJ<|.refl _
theorem Zm(b:Bool)(l:List aH)(p:al)(hl:l.length<=1073741824)(ad:p.length<=1048576)(H:ab):aO prog 295 [.sl b (l.map bj),.str p] H (EE<|jn l p):=by
 refine bg func295 ?_;have hs:=Hm p ad;unfold jn;cases af:gD p with
 |none=>
  simp only[lB,af]at hs;repeat' first|(refine ae ?_;simp only[go_sem])|refine ai ?_|fail
  exact bJ<|.refl _
 |some Z=>
  simp only[lB,af]at hs;cases Z with
  |nil=>
   repeat' first|(refine ae ?_;simp only[go_sem])|refine ai ?_|fail
   exact bJ<|.refl _
  |cons x xs=>
   have hlen:=JI af;rw[cd]at hlen;have hw:IntKind.i64.wrap (((xs.length+1:Nat):Int)-1)=(xs.length:Int):=by rw[bS];omega
   have O:((0:Int)<=(xs.length:Int)/\(xs.length:Int)<=((xs.length+1:Nat):Int))=True:=b1 gf;have hd:decide (((xs.length+1:Nat):Int)=0)=false:=dA;have S:(I.str x::xs.map I.str).getD xs.length .top=.str ((x::xs).getLast hW):=by rw[<-dO (f:=I.str),ek I.str hW,List.getLast_eq_getElem];simp
   have T:xs.length<xs.length+1:=Nat.lt_succ_self _;have ag:List.take xs.length (I.str x::xs.map I.str)=((x::xs).dropLast).map I.str:=by rw[<-dO (f:=I.str),<-vl,Hb];rfl
   obtain⟨⟨dir,e⟩,J⟩:∃r,fp l (x::xs).dropLast=r:=⟨_,rfl⟩;have U:=λf=>KD b f l (x::xs).dropLast hl;simp only[u4,J]at U;have V:=va dir;by_cases he:e=0
   ·subst he;simp only;cases K:dv dir with
    |true=>
     rw[K]at V;repeat' first|((first|refine cI (U _) ?_|refine ae ?_);simp only[go_sem,hw,O,hd,S,T,ag])|refine ai ?_|fail
     exact bJ<|.of (by simp[EE,J,K])
    |false=>
     rw[K]at V;repeat' first|((first|refine cI (U _) ?_|refine ae ?_);simp only[go_sem,hw,O,hd,S,T,ag])|refine ai ?_|fail
     exact bJ<|.of (by simp[EE,J,K])
   ·have z:decide (e=0)=false:=b0 he;simp only;repeat' first|((first|refine cI (U _) ?_|refine ae ?_);simp only[go_sem,hw,O,hd,S,T,ag,z])|refine ai ?_|fail
    exact bJ<|.of (by simp[EE,J,he])
theorem XX(m:di)(n:Int)(i:Nat)(cs:List I)(hm:m.dh.length<=1000000)(H:ab)(K:az H i=.cells 0 (.sl false (m.log.entries.map dT)::.sl false (m.log.nodes.map bj)::.int .i64 m.seen::.int .i64 m.rep::.sl false (m.dh.map jj)::cs)):
  aO prog 301 [.ref i 0 0,.int .i64 n] H (HG<|qe m n):=by
 refine bg func301 ?_;unfold qe;by_cases ay:n=0
 ·have hd:decide (n=0)=true:=dr ay;rw[aC ay];repeat' first|(refine ae ?_;simp only[go_sem,K,hd])|refine ai ?_|fail
  exact bJ<|.refl _
 have hd:decide (n=0)=false:=b0 ay;rw[ar ay];have h1:=bE K trivial;repeat' first|(refine ae ?_;simp only[go_sem,K,hd])|refine ai ?_|fail
 refine c7 (ι:=Nat×ab) (λs=>[(1,.int .i64 n),(20,.sl false<|m.dh.map jj),(21,.int .i64 m.dh.length),(22,.int .i64 s.1)]) (λs=>H++s.2) (λs=>s.1<=m.dh.length/\∀q (hk:q<s.1) (T:q<m.dh.length),decide (m.dh[q].n=n)=false) (λs=>m.dh.length-s.1) (0,[]) ⟨cb _,λq hk=>by simp only at hk;omega⟩ ?_ (cE _).symm ?_
 ·simp[go_sem]
 rintro⟨k,L⟩ ⟨hk,U⟩;simp only at hk U ⊢;generalize a7:H++L=G;by_cases J:k<m.dh.length
 ·have ad:=ek jj J;repeat' first|(refine ae ?_;simp only[go_sem,ad,jj,J])|refine bp ?_|(refine bz ?_ ?_<;>intro h<;>try exact bx h)|fail
  ·have O:m.dh.find? (λs=>decide<|s.n=n)=some m.dh[k]:=by
    rw[List.find?_eq_some_iff_getElem];exact⟨by assumption,k,J,rfl,λq aM=>by rw[U q aM gf];rfl⟩
   rw[O];exact Qf a7 mZ<|.refl _
  ·refine⟨(k+1,L++[.cells 0 (jj m.dh[k]).cells]),⟨J,λq aM S=>?_⟩,by simp only;omega,b7 _<|eb J gf,?_⟩
   ·by_cases e:q=k
    ·subst e;simpa using h
    ·have:=U q (by simp only at aM;omega) S;simpa using this
   ·show G++[.cells 0 (jj m.dh[k]).cells]=_;rw[<-a7,c6]
 ·have V:k=m.dh.length:=gf;have O:m.dh.find? (λs=>decide<|s.n=n)=none:=by
   rw[List.find?_eq_none];intro s hs;obtain⟨q,aM,rfl⟩:=List.mem_iff_getElem.1 hs;rw[U q gf aM];simp
  rw[O];repeat' first|(refine ae ?_;simp only[go_sem,J])|refine ai ?_|fail
  exact PG a7 mZ<|.refl _
theorem Pl(j:Nat)(c:cg)(d:cB)(i:Nat)(hm:d.m.log.entries.length<=1000000)(H:ab)(J:az H i=.cells 0 (fN j c d)):
  aO prog 297 [.ref i 0 0] H (.aN [DC (gJ d.m).1,.int .i64 (gJ d.m).2]):=by
 refine bg func297 ?_;have h1:=bE J trivial;have af:=aK7 d.m.seen d.m.rep;simp only[fN]at J h1;unfold gJ;unfold Qc at af;cases U:x9 d.m.seen d.m.rep with
 |false=>
  rw[U,ar hW]at af;rw[aC rfl];repeat' first|((first|refine mx [1] NJ ?_|refine ae ?_);simp only[go_sem,J,h1])|refine ai ?_|fail
  exact aX<|.refl _
 |true=>
  rw[U,aC rfl]at af;rw[ar hW];by_cases hl:(200:Int)<=(d.m.log.entries.length:Int)
  ·have hd:decide ((200:Int)<=(d.m.log.entries.length:Int))=true:=dr hl;rw[aC hl];repeat' first|((first|refine mx [1] NJ ?_|refine ae ?_);simp only[go_sem,J,h1,hd])|refine ai ?_|fail
   exact aX<|.refl _
  ·have hd:decide ((200:Int)<=(d.m.log.entries.length:Int))=false:=b0 hl;rw[ar hl];repeat' first|((first|refine mx [1] NJ ?_|refine ae ?_);simp only[go_sem,J,h1,hd])|refine ai ?_|fail
   exact aX<|.refl _
theorem Zw{j:Nat}{c:cg}{d:cB}(J:gL i j c d G)(hs:oo d.m){o:bk}(V:hR o)(hl:d.ops.length<=1000000):
  cV prog 316 [.ref i 0 0,bt o] G (λv H'=>v=.int .i64 (oj d o).1/\H'=gC G i j c (oj d o).2):=by
 refine h9 func316 ?_;have hm:=Yw false false d.m.log o V hs.ops hs.nodes hs.c8;have U:=J.aW;have K:=bE J.aW trivial;have O:=bE J.bA trivial;have Z:=J.ne;have z:=J.eV;have cH:=J.fF;have a6:=J.a6;have bb:=J.bb;have S:=bc G i;simp only[fN]at U K;have T:=od z cH Z rfl;simp only[Cf,Dl,rj,bt]at hm;unfold oj;by_cases he:nG d.m.log o=0
 ·rw[aC he];rw[he]at hm;have jw:(∀e,e=I.agg [.int .i64 o.at_.c,.int .i64 o.at_.r,.int .i64 o.kind,.int .i64 o.node,.int .i64 o.parent,.str o.name,.str o.data]->e.cells.length=7)=True:=b1 λe he=>by rw[he];rfl
  have iA:((d.ops.length+1) * 72<=140737488355328)=True:=b1 gf;have eh:=en (enc:=bt) (s:=7) (λ_=>rfl) d.ops;repeat' first|((first|refine mx [1] TY ?_|refine mx [5] T0 ?_|refine ae ?_);simp only[go_sem,bt,U,K,O,a6,bb,S,T,bc,jw,iA,eh])|refine ai ?_|fail
  refine uX J rfl ?_;unfold gC fN;simp[iP,p9,G5,bt,I.cells]
 ·have hd:decide (nG d.m.log o=0)=false:=b0 he;rw[ar he];repeat' first|((first|refine mx [1] TY ?_|refine mx [5] T0 ?_|refine ae ?_);simp only[go_sem,bt,U,K,O,a6,bb,S,T,bc,hd])|refine ai ?_|fail
  exact uX J rfl J.own.symm
theorem Lh{j:Nat}{c:cg}{d:cB}(U:gL i j c d G)(hs:oo d.m){o:bk}(aD:hR o)(hl:d.ops.length<=1000000):
  cV prog 299 [.ref i 0 0,bt o] G (λv H'=>v=.int .i64 (sR d o).1/\H'=gC G i j c (sR d o).2):=by
 refine h9 func299 ?_;have S:=U.aW;have T:=bE U.aW trivial;have I:=bE U.bA trivial;have z:=U.ne;have cM:=U.eV;have cH:=U.fF;have a6:=U.a6;have bb:=U.bb;have b3:=bc G i;simp only[fN]at S T;have bI:=od cM cH z rfl;unfold sR;obtain⟨s,e,af⟩:∃s e,gJ d.m=(s,e):=⟨_,_,rfl⟩;simp only[af];have O:=λL=>Pl j c d i (oC hs.c8) (G++L) (U.app L).aW;simp only[af,DC]at O;by_cases he:e=0
 ·subst he;rw[aC rfl];repeat' first|((first|refine ia (O _) aI ?_|refine kg (O _) aI ?_|refine kh (λ_=>O _) aI ?_|refine ae ?_);simp only[go_sem,bt])|refine ai ?_|fail
  obtain⟨L,gW⟩:∃L:ab,L=[.cells 0 [.int .i64 s.c,.int .i64 s.r,.int .i64 o.kind,.int .i64 o.node,.int .i64 o.parent,.str o.name,.str o.data],.cells 0 [.int .i64 s.c,.int .i64 s.r]]:=⟨_,rfl⟩;rw[<-gW];refine c4 (Zw (U.app L) hs (o:={o with at_:=s}) aD hl) aI ?_
  rintro v H' ⟨rfl,rfl⟩;rw[U.pV];obtain⟨⟨x,d1⟩,aw⟩:∃r,oj d {o with at_:=s}=r:=⟨_,rfl⟩
  rw[aw];simp only;obtain⟨V,Z⟩:∃V,gC G i j c d1=V:=⟨_,rfl⟩;have K:gL i j c d1 V:=Z▸U.put d1;have AI:V.length=G.length:=by rw[<-Z,Ia]
  have p7:∀d2,gC V i j c d2=gC G i j c d2:=λd2=>by rw[<-Z,U.sq]
  rw[Z,gW];have S:=K.aW;have T:=bE K.aW trivial;have I:=bE K.bA trivial;have z:=K.ne;have cM:=K.eV;have cH:=K.fF;have a6:=K.a6;have bb:=K.bb;have b3:=AI;simp only[fN]at S T;have bI:=od cM cH z AI;simp only[go_sem];by_cases J:x=0
  ·subst J;rw[aC rfl];repeat' first|(refine ae ?_;simp only[go_sem,S,T,I,a6,bb,b3,bI,bc])|refine ai ?_|fail
   refine uX U rfl ?_;rw[<-p7];exact K.one (d':={d1 with m:={d1.m with seen:=s.c}}) rfl
  ·have hd:decide (x=0)=false:=b0 J;rw[ar J];repeat' first|(refine ae ?_;simp only[go_sem,S,T,I,a6,bb,b3,bI,bc,hd])|refine ai ?_|fail
   exact uX U rfl Z.symm
 ·rw[ar he];have hd:decide (e=0)=false:=b0 he;repeat' first|((first|refine ia (O _) aI ?_|refine kg (O _) aI ?_|refine kh (λ_=>O _) aI ?_|refine ae ?_);simp only[go_sem,bt,hd])|refine ai ?_|fail
  exact uX U rfl U.own.symm
end Go.Proofs.YtnmamncmpklliaaGreatDoor

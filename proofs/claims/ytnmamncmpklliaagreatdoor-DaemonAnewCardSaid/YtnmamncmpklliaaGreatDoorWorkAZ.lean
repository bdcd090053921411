/- What the functions of this seat answer (26 of 53). No condition. -/
import Derived.Test.YtnmamncmpklliaaGreatDoorWorkAY
set_option linter.unusedSimpArgs false
set_option linter.unusedVariables false
set_option maxRecDepth 100000
set_option maxHeartbeats 16000000
namespace Go.Proofs.YtnmamncmpklliaaGreatDoor
variable{n i v lc k:Nat}{H:ab}{cs rest fs:List I}{fn:Fn}{l:List Int}{p:Int->Bool}
open Go.Proofs.Tryz
theorem Ns:De prog 137 I.str:=GN 1 func137
theorem aEH:De prog 293 c9:=GN 2 func293
theorem aGK(b:Bool)(l:List Int)(hl:l.length<=1073741824)(H:ab):
  dp prog 292 [.sl b (l.map bq)] H (λv H'=>v=.osl 1 H.length 1 0 l.length l.length/\H'=H++[.cells 1 (l.map bq)]):=by
 refine tU func292 ?_;have K:∀n,ep n (.cells 1<|l.map bq):=λn x J=>by obtain⟨y,_,rfl⟩:=bJ.1 J;exact .int _ _
 have fin:∀v H',v=.osl 1 H.length 1 0 l.length l.length->H'=H++[.cells 1 (l.map bq)]->∃H1 L y,H'=H1++L/\H.length<=H1.length/\(∀(i:Nat) (b:bE),H1[i]?=some b->H[i]?=some b\/ep H1.length b)/\cL H1.length H' v y/\
   y=.osl 1 H.length 1 0 l.length l.length/\H1=H++[.cells 1 (l.map bq)]:=by
  rintro v H' rfl rfl;refine⟨_,[],_,(cA _).symm,kk,λi b hi=>?_,.cl _<|.osl _ _ _ _ _ _ kk,rfl,rfl⟩
  by_cases O:i<H.length
  ·rw[iP O]at hi;exact .inl hi
  ·rw[pX iV]at hi
   cases hk:i-H.length with
   |zero=>rw[hk]at hi;cases hi;exact .inr<|K _
   |succ k=>rw[hk]at hi;simp at hi
 repeat' first|(refine ae ?_;simp only[go_sem])|refine ao ?_|fail
 intro c U;cases c with
 |true=>
  have T:l=[]:=by
   cases l with
   |nil=>rfl
   |cons x l=>exact absurd (U kk) l9
  subst T;repeat' first|(refine ae ?_;simp only[go_sem])|refine bt ?_|fail
  refine uv rfl (λ_=>?_) λh=>by cases h
  refine GX ?_;refine ud rfl ?_;simp only[go_sem];refine y2 2 1 rfl ?_;repeat' first|(refine ae ?_;simp only[go_sem])|refine ao ?_|fail
  exact fin _ _ rfl rfl
 |false=>
  clear U;have V:(∀e∈l.map bq,e.cells.length=1)=True:=b5<|AP l;have Z:(l.length * 8<=140737488355328)=True:=b5 iV
  repeat' first|(refine ae ?_;simp only[go_sem,V,xx,Z,Classical.em,true_or])|refine ao ?_|fail
  exact fin _ _ rfl rfl
theorem O6(k:Nat)(b:Bool)(l:List eb):cM k (.sl b<|l.map c9):=(b6.sl b _ (Kh (λ_=>nb) l)).cl k
theorem OS(k:Nat)(b:Bool)(l:List ag):cM k (.sl b<|l.map I.str):=(b6.sl b _ (Kh (λ_=>nb) l)).cl k
theorem aJr(k:Nat)(b:Bool)(l:List Int):cM k (.sl b<|l.map bq):=(b6.sl b _ (λe he=>by obtain⟨x,_,rfl⟩:=bJ.1 he;exact .int _ _)).cl k
theorem aGL(k:Nat)(l:List Int):∀x∈l.map bq,cM k x:=λx J=>by obtain⟨y,_,rfl⟩:=bJ.1 J;exact .int _ _
def sO(t:bz):Prop:=t.call.path.length<=1048576/\t.has.length<=1048576/\t.ec.names.length<=1048576/\t.ec.events.length<=1048576
theorem YD(f1 f2 f3:Bool)(t:bz)(hs:sO t)(H:ab):
  dp prog 258 [hy f1 f2 f3 t] H (λv H'=>v=kz (.osl 1 (H.length+2) 1 0 t.has.length t.has.length) (.sl false<|t.ec.names.map I.str) (.sl false<|t.ec.events.map c9) t/\∃A B,H'=H++[A,B,.cells 1<|t.has.map bq]):=by
 refine tU func258 ?_;obtain⟨h1,h2,h3,h4⟩:=hs;have af:=Ns f2 t.ec.names iV
 have he:=aEH f3 t.ec.events iV
 repeat' first|(refine ae ?_;simp only[go_sem,hy,kz])|refine ao ?_|fail
 refine dU (aGK f1 t.has iV _) aK ?_
 rintro v H' ⟨rfl,rfl⟩;simp only[go_sem];repeat' first|(refine ae ?_;simp only[go_sem])|refine ao ?_|fail
 refine⟨_,[],_,(cA _).symm,kk,FA ?_,.cl _ ?_,rfl,_,_,rfl⟩
 all_goals repeat' first|exact all_nil|refine all_cons ?_ ?_|refine aFd ?_|refine aKt ?_|refine aKu ?_|refine WE ?_ ?_|refine aIG ?_|exact .int _ _|exact .str _|exact .bool _|exact .dO|exact .nilIface|exact .osl _ _ _ _ _ _ (by simp only[bF,cg,eg];omega)|exact .ref _ _ _ (by simp only[bF,cg,eg];omega)|exact .map _ (by simp only[bF,cg,eg];omega)|exact OS _ _ _|exact O6 _ _ _|exact aGL _ _
theorem aKY{t:bz}(af:n<=i)(J:ay H i=.cells v cs)(U:cs=t.has.map bq++rest)(hk:k=t.has.length):
  cL n H (kz (.osl 1 i v 0 k lc) (.sl false<|t.ec.names.map I.str) (.sl false<|t.ec.events.map c9) t) (hy false false false t):=by
 unfold hy kz;refine .agg _ _ rfl ?_;repeat' first|exact fw|refine dj ?_ ?_|exact .cl _ (.int _ _)|exact .cl _ (.str _)|exact .cl _ (.bool _)|exact .cl _ (OS _ _ _)|exact .cl _<|O6 _ _ _
 exact q3 af J (by rw[xx];exact U) (by rw[cv,hk]) (AP _) (λe he=>by obtain⟨x,_,rfl⟩:=bJ.1 he;exact .int _ _)
theorem aJs(f:Bool)(t:bz):cL n H (kz (.sl f<|t.has.map bq) (.sl false<|t.ec.names.map I.str) (.sl false<|t.ec.events.map c9) t) (hy false false false t):=by
 unfold hy kz;refine .agg _ _ rfl ?_;repeat' first|exact fw|refine dj ?_ ?_|exact .cl _ (.int _ _)|exact .cl _ (.str _)|exact .cl _ (.bool _)|exact .cl _ (OS _ _ _)|exact .cl _ (O6 _ _ _)|exact .Jn _ _<|aJr _ _ _
theorem xz{L:ab}{x:I}(t:bz)(af:H.length<=i)(U:ay (H++L) i=.cells v cs)(K:cs=t.has.map bq++rest)(hk:k=t.has.length)(J:hy false false false t=x):
  ∃O y,H++L=H++O/\cL H.length (H++L) (kz (.osl 1 i v 0 k lc) (.sl false<|t.ec.names.map I.str) (.sl false<|t.ec.events.map c9) t) y/\y=x:=
 ⟨L,_,rfl,aKY af U K hk,J⟩
theorem aJt(f1 f2 f3:Bool)(t:bz)(hs:sO t)(H:ab):aM prog 238 [hy f1 f2 f3 t] H (hy false false false<|pR t):=by
 refine aZ func238 ?_;repeat' first|(refine ae ?_;simp only[go_sem,hy,kz])|refine ao ?_|fail
 refine dU (YD f1 f2 f3 t hs _) aK ?_;rintro v H' ⟨rfl,A,B,rfl⟩;simp only[go_sem,kz];repeat' first|(refine ae ?_;simp only[go_sem])|refine ao ?_|fail
 exact⟨_,_,rfl,aJs true<|pR t,rfl⟩
theorem aKZ(l:List Int)(p:Int->Bool)(i v lc n:Nat)(af:n=l.length)(I:n<=lc)(hl:n<=1073741824)(H:ab)(J:ay H i=.cells v (l.map bq))
  (T:∀x,kb prog (.func fn fs cs) [.int .i64 x] H (λr V=>r=.bool (p x)/\V=H)):
  aM prog 294 [.osl 1 i v 0 n lc,.func fn fs cs] H (.int .i64<|eT p l):=by
 refine aZ func294 ?_;repeat' first|(refine ae ?_;simp only[go_sem,J])|refine ao ?_|fail
 refine cE (ι:=Nat) (λk=>[(0,.osl 1 i v 0 n lc),(1,.func fn fs cs),(7,.int .i64 n),(8,.int .i64 k)]) (λ_=>H) (λk=>k<=n/\∀q (hk:q<k) (z:q<l.length),p l[q]=false) (λk=>n-k) 0 ⟨bW _,λq hk=>iV⟩ ?_ rfl ?_
 ·simp[go_sem]
 ·rintro k ⟨hk,U⟩;by_cases K:k<l.length
  ·have ad:=di bq K;have O:decide ((k:Int)<(n:Int))=true:=cK;have hw:=dA K iV
   have jD:(List.map bq l).length=n:=by rw[cv,af]
   repeat' first|(refine ae ?_;simp only[go_sem,J,O,ad,bq,cv,me,<-af])|refine ao ?_|fail
   refine Kk (T l[k]) ?_;simp only[go_sem];repeat' first|(refine ae ?_;simp only[go_sem])|refine bt ?_|(refine bB ?_ ?_<;>intro h<;>try exact bA h)|fail
   ·exact bD<|.of (by rw[FU p l k K (λq aJ=>U q aJ iV) (by assumption)])
   ·refine⟨k+1,⟨iV,λq aJ jE=>?_⟩,iV,bU _ hw⟩
    by_cases e:q=k
    ·subst e;assumption
    ·exact U q iV iV
  ·have Z:k=n:=iV
   subst Z;have O:decide ((k:Int)<(k:Int))=false:=kk
   repeat' first|(refine ae ?_;simp only[go_sem,J,O])|refine ao ?_|fail
   exact bD<|.of (by rw[FV p l λq hk=>U q iV hk])
theorem aEI(h:eT p l= -1):l.filter (λx=> !p x)=l:=by
 induction l with
 |nil=>rfl
 |cons x l J=>
  unfold eT at h;by_cases ad:p x=true
  ·rw[aA ad]at h;cases h
  ·rw[aj ad]at h;split at h
   ·rename_i h1;rw[sE,aA (by simp[ad]),J h1]
   ·have:=Ju p l;omega
theorem aEJ(h:eT p l≠ -1):∃A x B,l=A++x::B/\eT p l=A.length/\p x=true/\A.filter (λx=> !p x)=A:=by
 induction l with
 |nil=>exact absurd rfl h
 |cons x l J=>
  by_cases ad:p x=true
  ·exact⟨[],x,l,rfl,by simp[eT,ad],ad,rfl⟩
  ·unfold eT at h ⊢;rw[aj ad]at h ⊢;by_cases h1:eT p l= -1
   ·rw[aA h1]at h;exact absurd rfl h
   ·rw[aj h1];obtain⟨A,y,B,av,al,U,K⟩:=J h1;exact⟨x::A,y,B,by rw[av];rfl,by rw[al];simp,U,by rw[sE,aA (by simp[ad]),K]⟩
theorem aLT(l:List Int)(p:Int->Bool)(i v lc n:Nat)(af:n=l.length)(jm:n<=lc)(hl:n<=1073741824)(K:ab->Prop)(QM:∀G b,K G->K (ar G i b))(H:ab)(U:ay H i=.cells v (l.map bq))
  (ax:∀x G,K G->kb prog (.func fn fs cs) [.int .i64 x] G (λr dw=>r=.bool (p x)/\dw=G)) (aL:K H):
  dp prog 260 [.osl 1 i v 0 n lc,.func fn fs cs] H (λr H'=>∃rest,r=.osl 1 i v 0 (l.filter λx=> !p x).length lc/\H'=ar H i (.cells v<|(l.filter (λx=> !p x)).map bq++rest)):=by
 refine p3 func260 ?_;have O:=aKZ l p i v lc n af jm hl H U λx=>ax x H aL
 have Cn:=dk U trivial;have s1:=λb=>dR Cn b
 have s2:=jS H i;by_cases h1:eT p l= -1
 ·rw[h1]at O;repeat' first|((first|refine jg O ?_|refine ae ?_);simp only[go_sem,U,Int.reduceEq])|refine ao ?_|fail
  rw[aEI h1,af];exact⟨[],rfl,by rw[cA];exact(lr U trivial).symm⟩
 ·obtain⟨A,x,B,rfl,al,aY,bu⟩:=aEJ h1;rw[al]at O;have bZ:n=A.length+(B.length+1):=by simp[af]
  have hd:decide (((A.length:Nat):Int)= -1)=false:=cQ;have hw:IntKind.i64.wrap ((A.length:Int)+1)=((A.length+1:Nat):Int):=by rw[bI];rfl
  repeat' first|((first|refine jg O ?_|refine ae ?_);simp only[go_sem,U,hd,hw])|refine ao ?_|fail
  generalize hp:A++x::B=L at *;refine cE (ι:=Nat×Nat×List Int) (λs=>[(0,.osl 1 i v 0 n lc),(1,.func fn fs cs),(5,.int .i64 s.1),(6,.int .i64 s.2.1)])
   (λs=>ar H i<|.cells v (s.2.2.map bq)) (λs=>s.1<s.2.1/\s.2.1<=n/\s.2.2.length=n/\s.2.2.take s.1=(L.take s.2.1).filter (λx=> !p x)/\s.2.2.drop s.2.1=L.drop s.2.1) (λs=>n-s.2.1) (A.length,A.length+1,L)
   ⟨kk,by simp only;omega,af.symm,?_,rfl⟩ ?_ (lr U trivial).symm ?_
  ·simp only;rw[<-hp,x0,show A++x::B=(A++[x])++B by simp,show A.length+1=(A++[x]).length by simp,x0,wD,bu];simp[aY]
  ·simp[go_sem]
  ·rintro⟨k,j,E⟩ ⟨cP,dE,T,J,V⟩;simp only at cP dE T J V ⊢;have z:(E.map bq).length=n:=by rw[cv,T]
   by_cases aq:j<n
   ·have bg:decide ((j:Int)<(n:Int))=true:=cK;have Z:j<L.length:=iV
    have QL:E[j]'(by omega)=L[j]:=by
     have a:=ij (l:=E) (i:=j) iV
     have b:=ij Z;rw[V,b]at a;exact(Dq a).1.symm
    have Mc:(E.map bq).getD j .top=.int .i64 L[j]:=by rw[di bq iV,QL];rfl
    have fH:IntKind.i64.wrap ((j:Int)+1)=((j+1:Nat):Int):=by rw[bI];rfl
    have dI:IntKind.i64.wrap ((k:Int)+1)=((k+1:Nat):Int):=by rw[bI];rfl
    have RL:dq (E.map bq) k [.int .i64 L[j]]=(E.set k L[j]).map bq:=by
     have aOW:k<E.length:=iV
     have e:=rS (A:=(E.take k).map bq) (B:=(E.drop k).map bq) (off:=k) (X:=[I.int .i64 L[j]]) nX
     rw[<-nQ,pY]at e;rw[e,List.set_eq_take_append_cons_drop,aA aOW,nQ,dz,<-uY,sD];rfl
    have B6:L.take (j+1)=L.take j++[L[j]]:=fj Z;have fN:(j * 1<n)=True:=b5 iV
    repeat' first|(refine ae ?_;simp only[go_sem,s1,s2,bg,z,Mc,me])|refine ao ?_|fail
    refine Kk (ax L[j] _ (QM _ _ aL)) ?_;cases r5:p L[j]with
    |true=>
     simp only[go_sem];repeat' first|(refine ae ?_;simp only[go_sem])|refine ao ?_|fail
     refine⟨(k,j+1,E),⟨by simp only;omega,by simp only;omega,T,?_,?_⟩,by simp only;omega,⟨rfl,bU _ fH⟩,rfl⟩
     ·simp only;rw[B6,wD,<-J,sE,aj<|by simp[r5]];simp
     ·simp only;have a:=ij (l:=E) (i:=j) iV
      have b:=ij Z;rw[V,b]at a;exact(Dq a).2.symm
    |false=>
     simp only[go_sem];repeat' first|(refine ae ?_;simp only[go_sem,s1,s2,z,RL,me])|refine ao ?_|fail
     refine⟨(k+1,j+1,E.set k L[j]),⟨by simp only;omega,by simp only;omega,by simp only[kB];exact T,?_,?_⟩,by simp only;omega,⟨bU _ dI,bU _ fH⟩,rfl⟩
     ·simp only;rw[B6,wD,<-J,sE,aA (by simp[r5]),fj nX,Ga,List.take_set_of_le<|bd _]
      rfl
     ·simp only;rw[List.drop_set_of_lt iV]
      have a:=ij (l:=E) (i:=j) iV
      have b:=ij Z;rw[V,b]at a;exact(Dq a).2.symm
   ·have q8:j=n:=iV
    subst q8;have bg:decide ((j:Int)<(j:Int))=false:=kk
    repeat' first|(refine ae ?_;simp only[go_sem,s1,s2,bg,z,me])|refine ao ?_|fail
    rw[af,eG]at J;have hk:k=(L.filter (λx=> !p x)).length:=by rw[<-J,eK];omega
    have dZ:=rS (A:=(L.filter (λx=> !p x)).map bq) (B:=(E.drop k).map bq) (off:=k) (X:=List.flatMap I.cells (List.replicate (j-k) (I.int IntKind.i64 0)))<|by rw[cv,hk]
    rw[<-nQ,<-J,pY]at dZ;exact⟨_,by rw[<-hk],by rw[dZ,J]⟩
theorem aGM(kind lock:Int)(i:Nat)(G:ab)(J:ay G i=.cells 0 [.int .i64 kind,.int .i64 lock])(x:Int):aM prog 261 [.int .i64 x,.ref i 0 0] G (.bool<|decide (x=lock)):=by
 refine aZ func261 ?_;repeat' first|(refine ae ?_;simp only[go_sem,J])|refine ao ?_|fail
 exact bD<|.refl _
theorem Xh(f1 f2 f3:Bool)(t:bz)(u:eZ)(hs:sO t)(H:ab):aM prog 230 [hy f1 f2 f3 t,rC u] H (hy false false false<|dt t u):=by
 obtain⟨X,J⟩:∃X,X=hy false false false (dt t u):=⟨_,rfl⟩;rw[<-J];refine aZ func230 ?_;have K:=aJp t.call hs.1;have hlen:=hs.2.1;simp only[c4]at K;repeat' first|(refine ae ?_;simp only[go_sem,hy,kz,rC])|refine ao ?_|fail
 refine dU (YD f1 f2 f3 t hs _) aK ?_;rintro v H' ⟨rfl,A,B,rfl⟩;obtain⟨U,ul⟩:=u;simp only[go_sem,kz];rcases(show U=1\/U=2\/U=3\/U=5\/((U=1)=False/\(U=2)=False/\(U=3)=False/\(U=5)=False) by simp only[eq_iff_iff,iff_false];omega)with rfl|rfl|rfl|rfl|⟨av,al,aY,b9⟩
 ·have V:(∀e,e=I.int .i64 ul->e.cells.length=1)=True:=b5 λe he=>by rw[he];rfl
  have Z:((t.has.length+1) * 8<=140737488355328)=True:=b5 iV
  by_cases h1:t.has.length=1
  ·have hd:decide ((t.has.length:Int)=1)=true:=cK;cases hk:hA t.call with
   |true=>
    rw[hk]at K;repeat' first|(refine ae ?_;simp only[go_sem,Int.reduceEq,hd,V,Z,me])|refine ao ?_|fail
    exact xz {t with at_:=IntKind.i64.wrap<|t.at_+1,has:=t.has++[ul]} (v:=2) (cs:=t.has.map bq++[.int .i64 ul]) iV nb (rest:=[]) (by simp[bq]) kk (by rw[J];simp[dt,h1,hk])
   |false=>
    rw[hk]at K;repeat' first|(refine ae ?_;simp only[go_sem,Int.reduceEq,hd,V,Z,me])|refine ao ?_|fail
    exact xz {t with has:=t.has++[ul]} (v:=2) (cs:=t.has.map bq++[.int .i64 ul]) iV nb (rest:=[]) (by simp[bq]) kk (by rw[J];simp[dt,h1,hk])
  ·have hd:decide ((t.has.length:Int)=1)=false:=cQ;repeat' first|(refine ae ?_;simp only[go_sem,Int.reduceEq,hd,V,Z,me])|refine ao ?_|fail
   exact xz {t with has:=t.has++[ul]} (v:=2) (cs:=t.has.map bq++[.int .i64 ul]) iV nb (rest:=[]) (by simp[bq]) kk (by rw[J];simp[dt,h1])
 ·repeat' first|(refine ae ?_;simp only[go_sem,Int.reduceEq])|refine ao ?_|fail
  refine dU (aLT t.has (λx=>decide<|x=ul) (H.length+5) 1 t.has.length t.has.length rfl (bd _) iV (λG=>ay G (H.length+1)=.cells 0 [.int .i64 2,.int .i64 ul]) (λG b z=>bY z iV b) _ nb
   (λx G z=>Or.inl ⟨aK,aGM 2 ul _ G z x⟩) nb) aK ?_
  rintro v H' ⟨rest,rfl,rfl⟩;simp only[go_sem];obtain⟨F,O⟩:∃F,t.has.filter (λx=> !decide (x=ul))=F:=⟨_,rfl⟩
  rw[O];have T:(List.map bq F++rest)=F.map bq++rest:=rfl;by_cases h1:F=[]
  ·have hd:decide ((F.length:Int)=0)=true:=by rw[h1];rfl
   cases lG:t.done with
   |true=>
    repeat' first|(refine ae ?_;simp only[go_sem,Int.reduceEq,hd])|refine ao ?_|fail
    exact xz {t with has:=F,done:=true} iV nb T rfl (by rw[J];simp[dt,O,lG])
   |false=>
    cases hk:hA t.call with
    |true=>
     rw[hk]at K;repeat' first|(refine ae ?_;simp only[go_sem,Int.reduceEq,hd])|refine ao ?_|fail
     exact xz {t with has:=F,at_:=0,done:=false} iV nb T rfl (by rw[J];simp[dt,O,h1,hk,lG])
    |false=>
     rw[hk]at K;repeat' first|(refine ae ?_;simp only[go_sem,Int.reduceEq,hd])|refine ao ?_|fail
     exact xz {t with has:=F,done:=false} iV nb T rfl (by rw[J];simp[dt,O,hk,lG])
  ·have hd:decide ((F.length:Int)=0)=false:=bN λh=>h1 (iO iV)
   repeat' first|(refine ae ?_;simp only[go_sem,Int.reduceEq,hd])|refine ao ?_|fail
   exact xz {t with has:=F} iV nb T rfl (by rw[J];simp[dt,O,h1])
 ·repeat' first|(refine ae ?_;simp only[go_sem,Int.reduceEq])|refine ao ?_|fail
  exact xz {t with done:=true} iV nb (cA _).symm rfl (by rw[J];rfl)
 ·repeat' first|(refine ae ?_;simp only[go_sem,Int.reduceEq])|refine ao ?_|fail
  exact xz {t with ended:=true} iV nb (cA _).symm rfl (by rw[J];rfl)
 ·repeat' first|(refine ae ?_;simp only[go_sem,Int.reduceEq,av,al,aY,b9])|refine ao ?_|fail
  exact xz t iV nb (cA _).symm rfl<|by rw[J];simp[dt,av,al,aY,b9]
end Go.Proofs.YtnmamncmpklliaaGreatDoor

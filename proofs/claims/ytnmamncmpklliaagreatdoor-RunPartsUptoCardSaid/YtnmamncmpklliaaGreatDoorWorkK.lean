/- What functions answer. No condition. -/
import Derived.Test.YtnmamncmpklliaaGreatDoorWorkF
set_option linter.unusedSimpArgs false
set_option linter.unusedVariables false
set_option maxRecDepth 100000
set_option maxHeartbeats 16000000
namespace Go.Proofs.YtnmamncmpklliaaGreatDoor
variable{n i v lc k:Nat}{H:ab}{cs rest fs:List I}{fn:Fn}{l:List aH}{p:Int->Bool}{d:Int}
open Go.Proofs.Tryz
theorem Oe:DK prog 137 I.str:=HI 1 func137
theorem aFE:DK prog 293 dt:=HI 2 func293
theorem aHH(b:Bool)(l:List Int)(hl:l.length<=1073741824)(H:ab):
  cV prog 292 [.sl b (l.map bu)] H (λv H'=>v=.osl 1 H.length 1 0 l.length l.length/\H'=H++[.cells 1 (l.map bu)]):=by
 refine uf func292 ?_;have K:∀n,ed n (.cells 1<|l.map bu):=λn x J=>by obtain⟨y,_,rfl⟩:=bP.1 J;exact .int _ _
 have fin:∀v H',v=.osl 1 H.length 1 0 l.length l.length->H'=H++[.cells 1 (l.map bu)]->∃H1 L y,H'=H1++L/\H.length<=H1.length/\(∀(i:Nat) (b:bD),H1[i]?=some b->H[i]?=some b\/ed H1.length b)/\cJ H1.length H' v y/\
   y=.osl 1 H.length 1 0 l.length l.length/\H1=H++[.cells 1 (l.map bu)]:=by
  rintro v H' rfl rfl;refine⟨_,[],_,(cE _).symm,hW,λi b hi=>?_,.cl _<|.osl _ _ _ _ _ _ hW,rfl,rfl⟩;by_cases O:i<H.length
  ·rw[jc O]at hi;exact .inl hi
  ·rw[pH gf]at hi;cases hk:i-H.length with
   |zero=>rw[hk]at hi;cases hi;exact .inr<|K _
   |succ k=>rw[hk]at hi;simp at hi
 repeat' first|(refine ae ?_;simp only[go_sem])|refine ai ?_|fail
 intro c U;cases c with
 |true=>
  have S:l=[]:=by
   cases l with
   |nil=>rfl
   |cons x l=>exact absurd (U hW) ko
  subst S;repeat' first|(refine ae ?_;simp only[go_sem])|refine bp ?_|fail
  refine kA rfl (λ_=>?_) λh=>p2 h;refine HR ?_;refine uu rfl ?_;simp only[go_sem];refine xU 2 1 rfl ?_;repeat' first|(refine ae ?_;simp only[go_sem])|refine ai ?_|fail
  exact fin _ _ rfl rfl
 |false=>
  clear U;have T:(∀e∈l.map bu,e.cells.length=1)=True:=b1<|A9 l;have V:(l.length * 8<=140737488355328)=True:=b1 gf
  repeat' first|(refine ae ?_;simp only[go_sem,T,xQ,V,Classical.em,true_or])|refine ai ?_|fail
  exact fin _ _ rfl rfl
theorem PI(k:Nat)(b:Bool)(l:List e7):cN k (.sl b<|l.map dt):=(b9.sl b _ (K9 (λ_=>mZ) l)).cl k
theorem Po(k:Nat)(b:Bool)(l:List al):cN k (.sl b<|l.map I.str):=(b9.sl b _ (K9 (λ_=>mZ) l)).cl k
theorem aJd(k:Nat)(b:Bool)(l:List Int):cN k (.sl b<|l.map bu):=(b9.sl b _ (λe he=>by obtain⟨x,_,rfl⟩:=bP.1 he;exact .int _ _)).cl k
theorem aHI(k:Nat)(l:List Int):∀x∈l.map bu,cN k x:=λx J=>by obtain⟨y,_,rfl⟩:=bP.1 J;exact .int _ _
def sN(t:bF):Prop:=t.call.path.length<=1048576/\t.has.length<=1048576/\t.bZ.names.length<=1048576/\t.bZ.events.length<=1048576
theorem Y8(f1 f2 f3:Bool)(t:bF)(hs:sN t)(H:ab):
  cV prog 258 [iJ f1 f2 f3 t] H (λv H'=>v=kT (.osl 1 (H.length+2) 1 0 t.has.length t.has.length) (.sl false<|t.bZ.names.map I.str) (.sl false<|t.bZ.events.map dt) t/\∃A B,H'=H++[A,B,.cells 1<|t.has.map bu]):=by
 refine uf func258 ?_;obtain⟨h1,h2,h3,h4⟩:=hs;have af:=Oe f2 t.bZ.names gf;have he:=aFE f3 t.bZ.events gf;repeat' first|(refine ae ?_;simp only[go_sem,iJ,kT])|refine ai ?_|fail
 refine c4 (aHH f1 t.has gf _) aI ?_;rintro v H' ⟨rfl,rfl⟩;simp only[go_sem];repeat' first|(refine ae ?_;simp only[go_sem])|refine ai ?_|fail
 refine⟨_,[],_,(cE _).symm,hW,G1 ?_,.cl _ ?_,rfl,_,_,rfl⟩;all_goals repeat' first|exact all_nil|refine all_cons ?_ ?_|refine aF7 ?_|refine aKD ?_|refine aKE ?_|refine Xq ?_ ?_|refine aID ?_|exact .int _ _|exact .str _|exact .bool _|exact .dX|exact .nilIface|exact .osl _ _ _ _ _ _ (by simp only[bw,cd,dZ];omega)|exact .ref _ _ _ (by simp only[bw,cd,dZ];omega)|exact .map _ (by simp only[bw,cd,dZ];omega)|exact Po _ _ _|exact PI _ _ _|exact aHI _ _
theorem aKY{t:bF}(af:n<=i)(J:az H i=.cells v cs)(U:cs=t.has.map bu++rest)(hk:k=t.has.length):
  cJ n H (kT (.osl 1 i v 0 k lc) (.sl false<|t.bZ.names.map I.str) (.sl false<|t.bZ.events.map dt) t) (iJ false false false t):=by
 unfold iJ kT;refine .agg _ _ rfl ?_;repeat' first|exact fx|refine ds ?_ ?_|exact .cl _ (.int _ _)|exact .cl _ (.str _)|exact .cl _ (.bool _)|exact .cl _ (Po _ _ _)|exact .cl _<|PI _ _ _
 exact q8 af J (by rw[xQ];exact U) (by rw[dq,hk]) (A9 _) (λe he=>by obtain⟨x,_,rfl⟩:=bP.1 he;exact .int _ _)
theorem aJe(f:Bool)(t:bF):cJ n H (kT (.sl f<|t.has.map bu) (.sl false<|t.bZ.names.map I.str) (.sl false<|t.bZ.events.map dt) t) (iJ false false false t):=by unfold iJ kT;refine .agg _ _ rfl ?_;repeat' first|exact fx|refine ds ?_ ?_|exact .cl _ (.int _ _)|exact .cl _ (.str _)|exact .cl _ (.bool _)|exact .cl _ (Po _ _ _)|exact .cl _ (PI _ _ _)|exact .Kc _ _<|aJd _ _ _
theorem xT{L:ab}{x:I}(t:bF)(af:H.length<=i)(U:az (H++L) i=.cells v cs)(K:cs=t.has.map bu++rest)(hk:k=t.has.length)(J:iJ false false false t=x):
  ∃O y,H++L=H++O/\cJ H.length (H++L) (kT (.osl 1 i v 0 k lc) (.sl false<|t.bZ.names.map I.str) (.sl false<|t.bZ.events.map dt) t) y/\y=x:=
 ⟨L,_,rfl,aKY af U K hk,J⟩
theorem aJf(f1 f2 f3:Bool)(t:bF)(hs:sN t)(H:ab):aO prog 238 [iJ f1 f2 f3 t] H (iJ false false false<|pz t):=by
 refine bg func238 ?_;repeat' first|(refine ae ?_;simp only[go_sem,iJ,kT])|refine ai ?_|fail
 refine c4 (Y8 f1 f2 f3 t hs _) aI ?_;rintro v H' ⟨rfl,A,B,rfl⟩;simp only[go_sem,kT];repeat' first|(refine ae ?_;simp only[go_sem])|refine ai ?_|fail
 exact⟨_,_,rfl,aJe true<|pz t,rfl⟩
theorem aKZ(l:List Int)(p:Int->Bool)(i v lc n:Nat)(af:n=l.length)(Z:n<=lc)(hl:n<=1073741824)(H:ab)(J:az H i=.cells v (l.map bu))
  (S:∀x,kb prog (.func fn fs cs) [.int .i64 x] H (λr T=>r=.bool (p x)/\T=H)):
  aO prog 294 [.osl 1 i v 0 n lc,.func fn fs cs] H (.int .i64<|e3 p l):=by
 refine bg func294 ?_;repeat' first|(refine ae ?_;simp only[go_sem,J])|refine ai ?_|fail
 refine c7 (ι:=Nat) (λk=>[(0,.osl 1 i v 0 n lc),(1,.func fn fs cs),(7,.int .i64 n),(8,.int .i64 k)]) (λ_=>H) (λk=>k<=n/\∀q (hk:q<k) (I:q<l.length),p l[q]=false) (λk=>n-k) 0 ⟨cb _,λq hk=>gf⟩ ?_ rfl ?_
 ·simp[go_sem]
 ·rintro k ⟨hk,U⟩;by_cases K:k<l.length
  ·have ad:=ek bu K;have O:decide ((k:Int)<(n:Int))=true:=cS;have hw:=eb K gf;have z:(List.map bu l).length=n:=by rw[dq,af]
   repeat' first|(refine ae ?_;simp only[go_sem,J,O,ad,bu,dq,mi,<-af])|refine ai ?_|fail
   refine Lb (S l[k]) ?_;simp only[go_sem];repeat' first|(refine ae ?_;simp only[go_sem])|refine bp ?_|(refine bz ?_ ?_<;>intro h<;>try exact bx h)|fail
   ·exact bJ<|.of (by rw[G2 p l k K (λq aM=>U q aM gf) (by assumption)])
   ·refine⟨k+1,⟨gf,λq aM jO=>?_⟩,gf,b7 _ hw⟩;by_cases e:q=k
    ·subst e;assumption
    ·exact U q gf gf
  ·have V:k=n:=gf;subst V;have O:decide ((k:Int)<(k:Int))=false:=hW;repeat' first|(refine ae ?_;simp only[go_sem,J,O])|refine ai ?_|fail
   exact bJ<|.of (by rw[G3 p l λq hk=>U q gf hk])
theorem aFF{l:List Int}(h:e3 p l= -1):l.filter (λx=> !p x)=l:=by
 induction l with
 |nil=>rfl
 |cons x l J=>
  unfold e3 at h;by_cases ad:p x=true
  ·rw[aC ad]at h;cases h
  ·rw[ar ad]at h;split at h
   ·rename_i h1;rw[sG,aC (by simp[ad]),J h1]
   ·have:=HF p l;omega
theorem aFG{l:List Int}(h:e3 p l≠ -1):∃A x B,l=A++x::B/\e3 p l=A.length/\p x=true/\A.filter (λx=> !p x)=A:=by
 induction l with
 |nil=>exact absurd rfl h
 |cons x l J=>
  by_cases ad:p x=true
  ·exact⟨[],x,l,rfl,by simp[e3,ad],ad,rfl⟩
  ·unfold e3 at h ⊢;rw[ar ad]at h ⊢;by_cases h1:e3 p l= -1
   ·rw[aC h1]at h;exact absurd rfl h
   ·rw[ar h1];obtain⟨A,y,B,ax,U,aU,bf⟩:=J h1;exact⟨x::A,y,B,by rw[ax];rfl,by rw[U];simp,aU,by rw[sG,aC (by simp[ad]),bf]⟩
theorem aMf(l:List Int)(p:Int->Bool)(i v lc n:Nat)(af:n=l.length)(jv:n<=lc)(hl:n<=1073741824)(K:ab->Prop)(Ro:∀G b,K G->K (an G i b))(H:ab)(U:az H i=.cells v (l.map bu))
  (aA:∀x G,K G->kb prog (.func fn fs cs) [.int .i64 x] G (λr dC=>r=.bool (p x)/\dC=G)) (aP:K H):
  cV prog 260 [.osl 1 i v 0 n lc,.func fn fs cs] H (λr H'=>∃rest,r=.osl 1 i v 0 (l.filter λx=> !p x).length lc/\H'=an H i (.cells v<|(l.filter (λx=> !p x)).map bu++rest)):=by
 refine mS func260 ?_;have O:=aKZ l p i v lc n af jv hl H U λx=>aA x H aP;have CJ:=cZ U trivial;have s1:=λb=>dK CJ b;have s2:=jd H i;by_cases h1:e3 p l= -1
 ·rw[h1]at O;repeat' first|((first|refine hI O ?_|refine ae ?_);simp only[go_sem,U,Int.reduceEq])|refine ai ?_|fail
  rw[aFF h1,af];exact⟨[],rfl,by rw[cE];exact(kf U trivial).symm⟩
 ·obtain⟨A,x,B,rfl,aq,aU,bf⟩:=aFG h1;rw[aq]at O;have cc:n=A.length+(B.length+1):=by simp[af]
  have hd:decide (((A.length:Nat):Int)= -1)=false:=dA;have hw:IntKind.i64.wrap ((A.length:Int)+1)=((A.length+1:Nat):Int):=by rw[bS];rfl
  repeat' first|((first|refine hI O ?_|refine ae ?_);simp only[go_sem,U,hd,hw])|refine ai ?_|fail
  generalize gW:A++x::B=L at *;refine c7 (ι:=Nat×Nat×List Int) (λs=>[(0,.osl 1 i v 0 n lc),(1,.func fn fs cs),(5,.int .i64 s.1),(6,.int .i64 s.2.1)])
   (λs=>an H i<|.cells v (s.2.2.map bu)) (λs=>s.1<s.2.1/\s.2.1<=n/\s.2.2.length=n/\s.2.2.take s.1=(L.take s.2.1).filter (λx=> !p x)/\s.2.2.drop s.2.1=L.drop s.2.1) (λs=>n-s.2.1) (A.length,A.length+1,L)
   ⟨hW,by simp only;omega,af.symm,?_,rfl⟩ ?_ (kf U trivial).symm ?_
  ·simp only;rw[<-gW,yn,show A++x::B=(A++[x])++B by simp,show A.length+1=(A++[x]).length by simp,yn,wS,bf];simp[aU]
  ·simp[go_sem]
  ·rintro⟨k,j,E⟩ ⟨c5,cY,S,J,T⟩;simp only at c5 cY S J T ⊢;have Z:(E.map bu).length=n:=by rw[dq,S]
   by_cases au:j<n
   ·have z:decide ((j:Int)<(n:Int))=true:=cS;have V:j<L.length:=gf;have Rn:E[j]'(by omega)=L[j]:=by
     have a:=ir (l:=E) (i:=j) gf;have b:=ir V;rw[T,b]at a;exact(DU a).1.symm
    have MS:(E.map bu).getD j .top=.int .i64 L[j]:=by rw[ek bu gf,Rn];rfl
    have dw:IntKind.i64.wrap ((j:Int)+1)=((j+1:Nat):Int):=by rw[bS];rfl
    have dQ:IntKind.i64.wrap ((k:Int)+1)=((k+1:Nat):Int):=by rw[bS];rfl
    have Ss:du (E.map bu) k [.int .i64 L[j]]=(E.set k L[j]).map bu:=by have aPH:k<E.length:=gf;have e:=rW (A:=(E.take k).map bu) (B:=(E.drop k).map bu) (off:=k) (X:=[I.int .i64 L[j]]) nc;rw[<-qz,sF]at e;rw[e,List.set_eq_take_append_cons_drop,aC aPH,qz,dO,<-yk,ym];rfl
    have Cs:L.take (j+1)=L.take j++[L[j]]:=hc V;have e9:(j * 1<n)=True:=b1 gf;repeat' first|(refine ae ?_;simp only[go_sem,s1,s2,z,Z,MS,mi])|refine ai ?_|fail
    refine Lb (aA L[j] _ (Ro _ _ aP)) ?_;cases r3:p L[j]with
    |true=>
     simp only[go_sem];repeat' first|(refine ae ?_;simp only[go_sem])|refine ai ?_|fail
     refine⟨(k,j+1,E),⟨by simp only;omega,by simp only;omega,S,?_,?_⟩,by simp only;omega,⟨rfl,b7 _ dw⟩,rfl⟩
     ·simp only;rw[Cs,wS,<-J,sG,ar<|by simp[r3]];simp
     ·simp only;have a:=ir (l:=E) (i:=j) gf;have b:=ir V;rw[T,b]at a;exact(DU a).2.symm
    |false=>
     simp only[go_sem];repeat' first|(refine ae ?_;simp only[go_sem,s1,s2,Z,Ss,mi])|refine ai ?_|fail
     refine⟨(k+1,j+1,E.set k L[j]),⟨by simp only;omega,by simp only;omega,by simp only[kx];exact S,?_,?_⟩,by simp only;omega,⟨b7 _ dQ,b7 _ dw⟩,rfl⟩
     ·simp only;rw[Cs,wS,<-J,sG,aC (by simp[r3]),hc nc,Hc,List.take_set_of_le<|bh _]
      rfl
     ·simp only;rw[List.drop_set_of_lt gf];have a:=ir (l:=E) (i:=j) gf;have b:=ir V;rw[T,b]at a;exact(DU a).2.symm
   ·have tb:j=n:=gf;subst tb;have z:decide ((j:Int)<(j:Int))=false:=hW;repeat' first|(refine ae ?_;simp only[go_sem,s1,s2,z,Z,mi])|refine ai ?_|fail
    rw[af,fe]at J;have hk:k=(L.filter (λx=> !p x)).length:=by rw[<-J,gK];omega
    have ee:=rW (A:=(L.filter (λx=> !p x)).map bu) (B:=(E.drop k).map bu) (off:=k) (X:=List.flatMap I.cells (List.replicate (j-k) (I.int IntKind.i64 0)))<|by rw[dq,hk]
    rw[<-qz,<-J,sF]at ee;exact⟨_,by rw[<-hk],by rw[ee,J]⟩
theorem aHJ(kind lock:Int)(i:Nat)(G:ab)(J:az G i=.cells 0 [.int .i64 kind,.int .i64 lock])(x:Int):aO prog 261 [.int .i64 x,.ref i 0 0] G (.bool<|decide (x=lock)):=by
 refine bg func261 ?_;repeat' first|(refine ae ?_;simp only[go_sem,J])|refine ai ?_|fail
 exact bJ<|.refl _
theorem X6(f1 f2 f3:Bool)(t:bF)(u:fk)(hs:sN t)(H:ab):aO prog 230 [iJ f1 f2 f3 t,ru u] H (iJ false false false<|dE t u):=by
 obtain⟨X,J⟩:∃X,X=iJ false false false (dE t u):=⟨_,rfl⟩;rw[<-J];refine bg func230 ?_;have K:=aJy t.call hs.1;have hlen:=hs.2.1;simp only[cy]at K;repeat' first|(refine ae ?_;simp only[go_sem,iJ,kT,ru])|refine ai ?_|fail
 refine c4 (Y8 f1 f2 f3 t hs _) aI ?_;rintro v H' ⟨rfl,A,B,rfl⟩;obtain⟨U,ul⟩:=u;simp only[go_sem,kT];rcases(show U=1\/U=2\/U=3\/U=5\/((U=1)=False/\(U=2)=False/\(U=3)=False/\(U=5)=False) by simp only[eq_iff_iff,iff_false];omega)with rfl|rfl|rfl|rfl|⟨ax,aq,aU,b8⟩
 ·have T:(∀e,e=I.int .i64 ul->e.cells.length=1)=True:=b1 λe he=>by rw[he];rfl
  have V:((t.has.length+1) * 8<=140737488355328)=True:=b1 gf;by_cases h1:t.has.length=1
  ·have hd:decide ((t.has.length:Int)=1)=true:=cS;cases hk:hB t.call with
   |true=>
    rw[hk]at K;repeat' first|(refine ae ?_;simp only[go_sem,Int.reduceEq,hd,T,V,mi])|refine ai ?_|fail
    exact xT {t with at_:=IntKind.i64.wrap<|t.at_+1,has:=t.has++[ul]} (v:=2) (cs:=t.has.map bu++[.int .i64 ul]) gf mZ (rest:=[]) (by simp[bu]) hW (by rw[J];simp[dE,h1,hk])
   |false=>
    rw[hk]at K;repeat' first|(refine ae ?_;simp only[go_sem,Int.reduceEq,hd,T,V,mi])|refine ai ?_|fail
    exact xT {t with has:=t.has++[ul]} (v:=2) (cs:=t.has.map bu++[.int .i64 ul]) gf mZ (rest:=[]) (by simp[bu]) hW (by rw[J];simp[dE,h1,hk])
  ·have hd:decide ((t.has.length:Int)=1)=false:=dA;repeat' first|(refine ae ?_;simp only[go_sem,Int.reduceEq,hd,T,V,mi])|refine ai ?_|fail
   exact xT {t with has:=t.has++[ul]} (v:=2) (cs:=t.has.map bu++[.int .i64 ul]) gf mZ (rest:=[]) (by simp[bu]) hW (by rw[J];simp[dE,h1])
 ·repeat' first|(refine ae ?_;simp only[go_sem,Int.reduceEq])|refine ai ?_|fail
  refine c4 (aMf t.has (λx=>decide<|x=ul) (H.length+5) 1 t.has.length t.has.length rfl (bh _) gf (λG=>az G (H.length+1)=.cells 0 [.int .i64 2,.int .i64 ul]) (λG b Z=>bN Z gf b) _ mZ
   (λx G Z=>Or.inl ⟨aI,aHJ 2 ul _ G Z x⟩) mZ) aI ?_
  rintro v H' ⟨rest,rfl,rfl⟩;simp only[go_sem];obtain⟨F,O⟩:∃F,t.has.filter (λx=> !decide (x=ul))=F:=⟨_,rfl⟩;rw[O];have S:(List.map bu F++rest)=F.map bu++rest:=rfl;by_cases h1:F=[]
  ·have hd:decide ((F.length:Int)=0)=true:=by rw[h1];rfl
   cases z:t.done with
   |true=>
    repeat' first|(refine ae ?_;simp only[go_sem,Int.reduceEq,hd])|refine ai ?_|fail
    exact xT {t with has:=F,done:=true} gf mZ S rfl (by rw[J];simp[dE,O,z])
   |false=>
    cases hk:hB t.call with
    |true=>
     rw[hk]at K;repeat' first|(refine ae ?_;simp only[go_sem,Int.reduceEq,hd])|refine ai ?_|fail
     exact xT {t with has:=F,at_:=0,done:=false} gf mZ S rfl (by rw[J];simp[dE,O,h1,hk,z])
    |false=>
     rw[hk]at K;repeat' first|(refine ae ?_;simp only[go_sem,Int.reduceEq,hd])|refine ai ?_|fail
     exact xT {t with has:=F,done:=false} gf mZ S rfl (by rw[J];simp[dE,O,hk,z])
  ·have hd:decide ((F.length:Int)=0)=false:=b0 λh=>h1 (iL gf);repeat' first|(refine ae ?_;simp only[go_sem,Int.reduceEq,hd])|refine ai ?_|fail
   exact xT {t with has:=F} gf mZ S rfl (by rw[J];simp[dE,O,h1])
 ·repeat' first|(refine ae ?_;simp only[go_sem,Int.reduceEq])|refine ai ?_|fail
  exact xT {t with done:=true} gf mZ (cE _).symm rfl (by rw[J];rfl)
 ·repeat' first|(refine ae ?_;simp only[go_sem,Int.reduceEq])|refine ai ?_|fail
  exact xT {t with ended:=true} gf mZ (cE _).symm rfl (by rw[J];rfl)
 ·repeat' first|(refine ae ?_;simp only[go_sem,Int.reduceEq,ax,aq,aU,b8])|refine ai ?_|fail
  exact xT t gf mZ (cE _).symm rfl<|by rw[J];simp[dE,ax,aq,aU,b8]
theorem aK0(n:Nat)(ay:0<n)(af:n<=1048576)(H:ab):cV prog 366 [.sl true [],.int .i64 n] H (λv H'=>v=.osl 1 H.length 1 0 0 n/\∃cs,cs.length=n/\H'=H++[.cells 1 cs]):=by
 refine mS func366 ?_;have h1:decide ((n:Int)<0)=false:=dA;have h2:decide ((0:Int)<(n:Int))=true:=cS;have h3:IntKind.i64.wrap ((n:Int)-IntKind.i64.wrap 0)=n:=by rw[show IntKind.i64.wrap 0=0 from rfl,bS];omega
 have h4:(n * 8<=140737488355328)=True:=b1 gf;have J:((0:Int)<(n:Int))=True:=b1 gf;have U:IntKind.i64.wrap ((n:Int)-IntKind.i64.wrap (0-0))=n:=h3;repeat' first|(refine ae ?_;simp only[go_sem,h1,h2,h3,h4,J,U,h5,dZ,Int.natCast_zero,vk,Int.toNat_zero,List.take_nil])|refine ai ?_|fail
 exact⟨_,by simp[I.cells],rfl⟩
theorem X7(v n:Nat)(l:List Int){B:bD}(J:B=.cells v (l.map bu)):cJ H.length (H++[B]) (.osl 1 H.length v 0 l.length n) (.sl false<|l.map bu):=by subst J;refine q8 (v:=v) (cs:=l.map bu) (rest:=[]) (bh _) mZ (by rw[xQ,cE]) (by rw[dq]) (A9 _) (λe he=>by obtain⟨x,_,rfl⟩:=bP.1 he;exact .int _ _)
theorem YC(l:List Int):(List.flatMap I.cells (l.map bu)).all I.one=true:=by
 rw[xQ];induction l with
 |nil=>rfl
 |cons x l J=>rw[dO,List.all_cons,J];rfl
theorem JZ{A B X C:List I}(h:X.length=C.length):du (A++(C++B)) A.length X=A++(X++B):=by rw[rW rfl,h,BI]
theorem Ow(f f1 f2:Bool)(J U:List Int)(h1:0<J.length)(h2:J.length<=100000)(h3:U.length<=100000)(H:ab):
  aO prog 365 [.sl f [.sl f1 (J.map bu),.sl f2<|U.map bu]] H (.sl false<|(J++U).map bu):=by
 refine bg func365 ?_;obtain⟨n,af⟩:∃n,J.length+U.length=n:=⟨_,rfl⟩;have V:IntKind.i64.wrap (0+(J.length:Int))=(J.length:Int):=by rw[bS];omega
 have Z:IntKind.i64.wrap ((J.length:Int)+(U.length:Int))=(n:Int):=by rw[bS];omega
 have rY:decide ((J.length:Int)<0)=false:=dA;have ie:decide ((n:Int)<0)=false:=dA;have O:IntKind.i64.wrap (0+1)=1:=rfl;have K:IntKind.i64.wrap (1+1)=2:=rfl;repeat' first|(refine ae ?_;simp only[go_sem])|refine ai ?_|fail
 refine sX 3 ?_;unfold pS;repeat' first|(refine ae ?_;simp only[go_sem,V,rY,O,Z,ie,K,Int.reduceLT])|refine ai ?_|fail
 refine c4 (aK0 n gf gf H) aI λv H' aF=>?_;obtain⟨rfl,cs,ao,rfl⟩:=aF;obtain⟨c1,c2,rfl,jt,S⟩:∃c1 c2,cs=c1++c2/\c1.length=J.length/\c2.length=U.length:=⟨cs.take J.length,cs.drop J.length,hW,nc,nc⟩;have T:((0:Nat)=n)=False:=eq_false gf;simp only[go_sem];repeat' first|(refine ae ?_;simp only[go_sem,T])|refine ai ?_|fail
 refine sX 3 ?_;unfold pS;repeat' first|(refine ae ?_;simp only[go_sem,T,O,K,Int.reduceLT])|refine ai ?_|fail
 have g1:du (c1++c2) 0 (List.flatMap I.cells<|J.map bu)=J.map bu++c2:=by
  have:=JZ (A:=[]) (B:=c2) (X:=J.map bu) (C:=c1)<|by rw[dq,jt]
  rw[xQ];simpa using this
 rw[g1];refine⟨⟨gf,gf,A9 _,YC _⟩,?_⟩;by_cases z:U=[]
 ·subst z;have ax:(J.length=n)=True:=b1<|oq af
  have aq:c2=[]:=iL S;subst aq;have aU:J.length * 8<=140737488355328:=gf;repeat' first|(refine ae ?_;simp only[go_sem,ax,O,K,Int.reduceLT,cE,jm,DQ,dZ,wU,aU,dq,List.all_nil,mi])|refine ai ?_|fail
  refine⟨_,_,rfl,X7 2 _ J rfl,?_⟩;first|rfl|rw[cE]
 ·have Hn:0<U.length:=nH.2 z;have ax:(J.length=n)=False:=eq_false gf;repeat' first|(refine ae ?_;simp only[go_sem,ax,O,K,Int.reduceLT])|refine ai ?_|fail
  have g2:du (J.map bu++c2) J.length (List.flatMap I.cells<|U.map bu)=J.map bu++U.map bu:=by
   have:=JZ (A:=J.map bu) (B:=[]) (X:=U.map bu) (C:=c2)<|by rw[dq,S]
   rw[xQ];simpa using this
  have g3:du (J.map bu++c2) (J.length * 1) (List.flatMap I.cells<|U.map bu)=J.map bu++U.map bu:=by rw[mi,g2]
  try rw[g2]
  try rw[g3]
  refine⟨⟨gf,gf,A9 _,YC _⟩,?_⟩;repeat' first|(refine ae ?_;simp only[go_sem,K,Int.reduceLT])|refine ai ?_|fail
  rw[<-qz];refine⟨_,_,rfl,?_,rfl⟩;have:=X7 (H:=H) 1 n (J++U) rfl;rwa[bw]at this
theorem aHK(H:ab){a:Int}(K:az H i=.cells v (bu a::cs))(S:0<lc):aO prog 183 [.osl 1 i v 0 1 lc,.int .i64 d] H (.bool<|decide (a=d)):=by
 have O:IntKind.i64.wrap (0+1)=1:=rfl;have U:decide ((1:Int)<((1:Nat):Int))=false:=rfl;by_cases h:d=a
 ·subst h;have J:aO prog 214 [.osl 1 i v 0 1 lc,.int .i64 d] H (.int .i64 0):=by
   refine bg func214 ?_;repeat' first|(refine ae ?_;simp only[go_sem])|refine ai ?_|fail
   refine sX 2 ?_;unfold pS;repeat' first|(refine ae ?_;simp only[go_sem,K,bu,O,U,qB])|refine ai ?_|fail
   exact Cb (.int _ _)<|.refl _
  refine bg func183 ?_;have U:decide ((0:Int)<=0)=true:=rfl;rw[dr rfl];repeat' first|((first|refine hI J ?_|refine ae ?_);simp only[go_sem,U])|refine ai ?_|fail
  exact Cb (.bool _)<|.refl _
 ·have ax:decide (d=a)=false:=b0 h;have J:aO prog 214 [.osl 1 i v 0 1 lc,.int .i64 d] H (.int .i64<|-1):=by
   refine bg func214 ?_;repeat' first|(refine ae ?_;simp only[go_sem])|refine ai ?_|fail
   refine sX 2 ?_;unfold pS;repeat' first|(refine ae ?_;simp only[go_sem,K,ax,bu,O,U])|refine ai ?_|fail
   exact Cb (.int _ _)<|.refl _
  refine bg func183 ?_;have U:decide ((0:Int)<= -1)=false:=rfl;rw[b0 (ka h)];repeat' first|((first|refine hI J ?_|refine ae ?_);simp only[go_sem,U])|refine ai ?_|fail
  exact Cb (.bool _)<|.refl _
def rl(i:Nat):List Int->I
 |[]=>.sl true []
 |d::br=>.osl 1 i (br.length+1) 0 (br.length+1)<|br.length+1
def sh(H:ab):List Int->ab
 |[]=>H
 |d::br=>H++[.cells (br.length+1) ((d::br).map bu)]
theorem aEG{br:List Int}{ps:List al}{f:List Int->al->List Int}(h:k<ps.length):(ps.drop k).foldl f br=(ps.drop (k+1)).foldl f (f br ps[k]):=by rw[ir h];rfl
theorem aEH{p:al}(h:gD p=none):gv l p=none:=by rw[gv,h]
theorem aGv{p:al}(h:gD p=some []):gv l p=none:=by rw[gv,h]
theorem aEI{p x:al}{xs:List al}{e:Int}(h:gD p=some (x::xs))(J:fp l (x::xs).dropLast=(d,e)):gv l p=if e=0/\dv d=true then some d else none:=by rw[gv,h];simp only[J]
theorem X8(l:List Int)(u:Int):(l.any λx=>decide<|x=u)=l.contains u:=by rw[zL];simp
theorem Y9(b:Bool)(l:List aH)(u w:Int)(hl:l.length<=1073741824)(H:ab)(i:Nat)(J:az H i=.cells 0 [.sl b (l.map bj)]):aO prog 364 [.int .i64 u,.int .i64 w,.ref i 0 0] H (.bool<|oH l u w):=by
 refine bg func364 ?_;have U:=PE b l w hl;repeat' first|((first|refine cI (Ka _ _ _) ?_|refine ae ?_);simp only[go_sem,J])|refine ai ?_|fail
 refine bJ<|.of ?_;rw[oH,X8]
theorem aJg(b:Bool)(l:List aH)(c:cg)(ad:c.path.length<=1048576)(ag:c.to.length<=1048576)(hl:l.length<=1073741824)(H:ab):
  aO prog 363 [cy c,.sl b<|l.map bj] H (.sl false<|(iH l c).map bu):=by
 refine bg func363 ?_;obtain⟨ps,p4⟩:∃ps,nt c=ps:=⟨_,rfl⟩;have AY:=aJz c;rw[p4]at AY;have dL:ps.length<=2:=by rw[<-p4,nt];split<;>(try split)<;>simp
 have uD:∀p∈ps,p.length<=1048576:=by
  rw[<-p4,nt];intro p aM;split at aM
  ·rcases db.1 aM with rfl|aM
   ·exact ad
   ·rw[dH.1 aM];exact ag
  ·split at aM
   ·rw[dH.1 aM];exact ad
   ·cases aM
 rw[show iH l c=1::nQ l (ps.foldl (λbr p=>jQ br<|gv l p) [])from by rw[iH,zr,p4]]
 clear p4;obtain⟨uL,pp,to,IB,aCw⟩:=c;simp only[cy]at AY;have y2:=KD b;repeat' first|(refine ae ?_;simp only[go_sem,cy])|refine ai ?_|fail
 refine c7 (ι:=Nat×List Int) (λq=>[(3,.ref (H.length+1) 0 0),(15,.sl true<|ps.map I.str),(16,.int .i64 ps.length),(17,.int .i64 q.1),(5,rl (H.length+2) q.2)]) (λq=>sh (H++[.cells 0 [.int .i64 uL,.str pp,.str to,.str IB,.int .i64 aCw],.cells 0 [.sl b (l.map bj)]]) q.2)
  (λq=>q.1<=ps.length/\q.2.length<=q.1/\ps.foldl (λbr p=>jQ br<|gv l p) []=(ps.drop q.1).foldl (λbr p=>jQ br<|gv l p) q.2) (λq=>ps.length-q.1) (0,[]) ⟨cb _,cb _,rfl⟩ ?_ rfl ?_
 ·simp[go_sem,rl]
 ·rintro⟨k,br⟩ ⟨hk,K,he⟩;simp only at hk K he ⊢;by_cases T:k<ps.length
  ·have z:=ek I.str T;have U:decide ((k:Int)<(ps.length:Int))=true:=cS;have hw:IntKind.i64.wrap ((k:Int)+1)=((k+1:Nat):Int):=by rw[bS];omega
   rw[aEG T]at he;have p3:=Hm ps[k] (uD _ (fQ _));cases eP:gD ps[k]with
   |none=>
    rw[aEH eP]at he;simp only[lB,eP]at p3;rcases br with _|⟨a,_|⟨a2,br⟩⟩
    ·simp only[rl,sh];repeat' first|(refine ae ?_;simp only[go_sem,z,U])|refine ai ?_|fail
     exact⟨(k+1,[]),⟨T,by simp only[dZ]at K ⊢;omega,he⟩,by simp only;omega,⟨b7 _ hw,rfl⟩,rfl⟩
    ·simp only[rl,sh];repeat' first|(refine ae ?_;simp only[go_sem,z,U])|refine ai ?_|fail
     exact⟨(k+1,[a]),⟨T,by simp only[cd,dZ]at K ⊢;omega,he⟩,by simp only;omega,⟨b7 _ hw,rfl⟩,rfl⟩
    ·simp only[cd]at K;omega
   |some nl=>
    have b3:=JI eP;cases nl with
    |nil=>
     rw[aGv eP]at he;simp only[lB,eP]at p3;rcases br with _|⟨a,_|⟨a2,br⟩⟩
     ·simp only[rl,sh];repeat' first|(refine ae ?_;simp only[go_sem,z,U])|refine ai ?_|fail
      exact⟨(k+1,[]),⟨T,by simp only[dZ]at K ⊢;omega,he⟩,by simp only;omega,⟨b7 _ hw,rfl⟩,rfl⟩
     ·simp only[rl,sh];repeat' first|(refine ae ?_;simp only[go_sem,z,U])|refine ai ?_|fail
      exact⟨(k+1,[a]),⟨T,by simp only[cd,dZ]at K ⊢;omega,he⟩,by simp only;omega,⟨b7 _ hw,rfl⟩,rfl⟩
     ·simp only[cd]at K;omega
    |cons x xs=>
     simp only[lB,eP]at p3;rw[cd]at b3;have dQ:IntKind.i64.wrap (((xs.length+1:Nat):Int)-1)=(xs.length:Int):=by rw[bS];omega
     have nX:decide (((xs.length+1:Nat):Int)=0)=false:=dA;have aa:((0:Int)<=(xs.length:Int)/\(xs.length:Int)<=((xs.length+1:Nat):Int))=True:=b1 gf;have aA:=λcR=>KD b cR l (x::xs).dropLast hl;obtain⟨⟨d,e⟩,qX⟩:∃r,fp l (x::xs).dropLast=r:=⟨_,rfl⟩;rw[aEI eP qX]at he;rw[qX,u4,Hb,vl,dO,cd,Nat.add_sub_cancel]at aA;simp only at aA;have vP:=va d;by_cases mz:e=0
     ·subst mz;cases iz:dv d with
      |false=>
       rw[iz]at he vP;rw[ar (by rintro⟨_,h⟩;cases h)]at he
       rcases br with _|⟨a,_|⟨a2,br⟩⟩
       ·simp only[rl,sh];repeat' first|((first|refine cI (aA _) ?_|refine ae ?_);simp only[go_sem,z,U,dQ,nX,aa,h5,dO,qB])|refine ai ?_|fail
        exact⟨(k+1,[]),⟨T,by simp only[dZ]at K ⊢;omega,he⟩,by simp only;omega,⟨b7 _ hw,rfl⟩,rfl⟩
       ·simp only[rl,sh];repeat' first|((first|refine cI (aA _) ?_|refine ae ?_);simp only[go_sem,z,U,dQ,nX,aa,h5,dO,qB])|refine ai ?_|fail
        exact⟨(k+1,[a]),⟨T,by simp only[cd,dZ]at K ⊢;omega,he⟩,by simp only;omega,⟨b7 _ hw,rfl⟩,rfl⟩
       ·simp only[cd]at K;omega
      |true=>
       rw[iz]at he vP;rw[aC ⟨rfl,rfl⟩]at he;rcases br with _|⟨a,_|⟨a2,br⟩⟩
       ·simp only[rl,sh];have ao:=Ka true [] d;simp only[jm,List.any_nil]at ao;repeat' first|((first|refine cI (aA _) ?_|refine ae ?_);simp only[go_sem,z,U,dQ,nX,aa,h5,dO,qB])|refine ai ?_|fail
        refine⟨⟨by simp only[true_or],by rintro e rfl;rfl⟩,?_⟩
        repeat' first|(refine ae ?_;simp only[go_sem])|refine ai ?_|fail
        exact⟨(k+1,[d]),⟨T,by simp only[cd,dZ]at K ⊢;omega,he⟩,by simp only;omega,⟨b7 _ hw,rfl⟩,rfl⟩
       ·simp only[rl,sh];have ao:=aHK (H++[.cells 0 [.int .i64 uL,.str pp,.str to,.str IB,.int .i64 aCw],.cells 0 [.sl b (l.map bj)],.cells 1 [bu a]]) (i:=H.length+2) (v:=1) (lc:=1) (a:=a) (d:=d) (cs:=[]) mZ gf;by_cases iR:a=d
        ·rw[dr iR]at ao;rw[show jQ [a] (some d)=[a]from by rw[iR];simp[jQ]]at he
         repeat' first|((first|refine cI (aA _) ?_|refine hI ao ?_|refine ae ?_);simp only[go_sem,z,U,dQ,nX,aa,h5,dO,qB])|refine ai ?_|fail
         exact⟨(k+1,[a]),⟨T,by simp only[cd,dZ]at K ⊢;omega,he⟩,by simp only;omega,⟨b7 _ hw,rfl⟩,rfl⟩
        ·rw[b0 iR]at ao;rw[show jQ [a] (some d)=[a,d]from by simp[jQ,ka iR]]at he
         repeat' first|((first|refine cI (aA _) ?_|refine hI ao ?_|refine ae ?_);simp only[go_sem,z,U,dQ,nX,aa,h5,dO,qB])|refine ai ?_|fail
         refine⟨by rintro e rfl;rfl,?_⟩
         repeat' first|(refine ae ?_;simp only[go_sem])|refine ai ?_|fail
         exact⟨(k+1,[a,d]),⟨T,by simp only[cd,dZ]at K ⊢;omega,he⟩,by simp only;omega,⟨b7 _ hw,rfl⟩,rfl⟩
       ·simp only[cd]at K;omega
     ·rw[ar (λh=>mz h.1)]at he;have FA:decide (e=0)=false:=b0 mz;rcases br with _|⟨a,_|⟨a2,br⟩⟩
      ·simp only[rl,sh];repeat' first|((first|refine cI (aA _) ?_|refine ae ?_);simp only[go_sem,z,U,dQ,nX,aa,h5,dO,FA])|refine ai ?_|fail
       exact⟨(k+1,[]),⟨T,by simp only[dZ]at K ⊢;omega,he⟩,by simp only;omega,⟨b7 _ hw,rfl⟩,rfl⟩
      ·simp only[rl,sh];repeat' first|((first|refine cI (aA _) ?_|refine ae ?_);simp only[go_sem,z,U,dQ,nX,aa,h5,dO,FA])|refine ai ?_|fail
       exact⟨(k+1,[a]),⟨T,by simp only[cd,dZ]at K ⊢;omega,he⟩,by simp only;omega,⟨b7 _ hw,rfl⟩,rfl⟩
      ·simp only[cd]at K;omega
  ·have k8:k=ps.length:=gf;subst k8;rw[qD]at he;simp only[Hg]at he;have U:decide ((ps.length:Int)<(ps.length:Int))=false:=hW;rw[he];rcases br with _|⟨a,_|⟨a2,_|⟨a3,br⟩⟩⟩
   ·simp only[rl,sh];have V:=λf f1=>Ow f f1 true [1] [] hW hW hW;simp only[dO,jm,cE,bu]at V;repeat' first|((first|refine cI (V _ _) ?_|refine ae ?_);simp only[go_sem,U])|refine ai ?_|fail
    exact aX<|.of rfl
   ·simp only[rl,sh];have V:=λf f1=>Ow f f1 false [1] [a] hW hW hW;simp only[dO,jm,mf,jb,bu]at V;refine A8 [5] [bu a] (v:=1) (lc:=1) (i:=H.length+2) (s:=1) (cs:=[bu a]) (by intro t ag;simp only[dH]at ag;subst ag;rfl) mZ ko rfl (by simp[bu,I.cells]) ?_
    repeat' first|((first|refine cI (V _ _) ?_|refine ae ?_);simp only[go_sem,U,bu])|refine ai ?_|fail
    exact aX<|.of rfl
   ·simp only[rl,sh];have O:=λH' ak=>Y9 b l a a2 hl H' (H.length+1) ak;have Z:=λH' ak=>Y9 b l a2 a hl H' (H.length+1) ak;by_cases nx:(!oH l a a2&&(oH l a2 a||decide (a2<a)))=true
    ·rw[show nQ l [a,a2]=[a2,a]from by rw[nQ,aC nx]]
     have V:=λf f1=>Ow f f1 false [1] [a2,a] hW hW hW;simp only[dO,jm,mf,jb,bu]at V;repeat' first|(refine ae ?_;simp only[go_sem,U])|refine bp ?_|fail
     refine kA rfl (λh=>p2 h) λ_=>?_;repeat' first|(refine ae ?_;simp only[go_sem])|refine bp ?_|fail
     refine kA rfl (λ_=>?_) λh=>absurd h ko;cases J:oH l a a2 with
     |true=>rw[J]at nx;cases nx
     |false=>
      rw[J]at O;cases aJ:oH l a2 a with
      |true=>
       rw[aJ]at Z;repeat' first|((first|refine oz (O _<|by simp only[go_sem,bu]) aI ?_|refine oA (λ_=>O _<|by simp only[go_sem,bu]) aI ?_|refine oB (λ_=>O _<|by simp only[go_sem,bu]) aI ?_|refine oz (Z _<|by simp only[go_sem,bu]) aI ?_|refine oA (λ_=>Z _<|by simp only[go_sem,bu]) aI ?_|refine oB (λ_=>Z _<|by simp only[go_sem,bu]) aI ?_|refine ae ?_);simp only[go_sem,bu])|refine bp ?_|fail
       refine kA rfl (λ_=>?_) λh=>p2 h;refine uu rfl ?_;simp only[go_sem];refine⟨ko,ko,?_⟩;refine A8 [5] [bu a2,bu a] (v:=2) (lc:=2) (i:=H.length+2) (s:=1) (cs:=[bu a2,bu a]) (by intro t ag;simp only[dH]at ag;subst ag;rfl) (by simp only[go_sem,bu]) ko rfl (by simp[bu,I.cells]) ?_
       simp only[bu];repeat' first|((first|refine cI (V _ _) ?_|refine ae ?_);simp only[go_sem])|refine ai ?_|fail
       exact aX<|.of rfl
      |false=>
       rw[aJ,J]at nx;rw[aJ]at Z;have S:decide (a2<a)=true:=oq nx;repeat' first|((first|refine oz (O _<|by simp only[go_sem,bu,S]) aI ?_|refine oA (λ_=>O _<|by simp only[go_sem,bu,S]) aI ?_|refine oB (λ_=>O _<|by simp only[go_sem,bu,S]) aI ?_|refine oz (Z _<|by simp only[go_sem,bu,S]) aI ?_|refine oA (λ_=>Z _<|by simp only[go_sem,bu,S]) aI ?_|refine oB (λ_=>Z _<|by simp only[go_sem,bu,S]) aI ?_|refine ae ?_);simp only[go_sem,bu,S])|refine bp ?_|fail
       refine kA rfl (λ_=>?_) λh=>p2 h;refine uu rfl ?_;simp only[go_sem];refine⟨ko,ko,?_⟩;refine A8 [5] [bu a2,bu a] (v:=2) (lc:=2) (i:=H.length+2) (s:=1) (cs:=[bu a2,bu a]) (by intro t ag;simp only[dH]at ag;subst ag;rfl) (by simp only[go_sem,bu]) ko rfl (by simp[bu,I.cells]) ?_
       simp only[bu];repeat' first|((first|refine cI (V _ _) ?_|refine ae ?_);simp only[go_sem])|refine ai ?_|fail
       exact aX<|.of rfl
    ·rw[show nQ l [a,a2]=[a,a2]from by rw[nQ,ar nx]]
     have V:=λf f1=>Ow f f1 false [1] [a,a2] hW hW hW;simp only[dO,jm,mf,jb,bu]at V;refine A8 [5] [bu a,bu a2] (v:=2) (lc:=2) (i:=H.length+2) (s:=1) (cs:=[bu a,bu a2]) (by intro t ag;simp only[dH]at ag;subst ag;rfl) mZ ko rfl (by simp[bu,I.cells]) ?_
     cases J:oH l a a2 with
     |true=>
      rw[J]at O;repeat' first|((first|refine cI (V _ _) ?_|refine oz (O _<|by simp only[go_sem,U,bu]) aI ?_|refine oA (λ_=>O _<|by simp only[go_sem,U,bu]) aI ?_|refine oB (λ_=>O _<|by simp only[go_sem,U,bu]) aI ?_|refine ae ?_);simp only[go_sem,U,bu])|refine ai ?_|fail
      exact aX<|.of rfl
     |false=>
      rw[J]at O nx;cases aJ:oH l a2 a with
      |true=>rw[aJ]at nx;exact absurd rfl nx
      |false=>
       rw[aJ]at Z nx;have S:decide (a2<a)=false:=oq nx;repeat' first|((first|refine cI (V _ _) ?_|refine oz (O _<|by simp only[go_sem,U,bu,S]) aI ?_|refine oA (λ_=>O _<|by simp only[go_sem,U,bu,S]) aI ?_|refine oB (λ_=>O _<|by simp only[go_sem,U,bu,S]) aI ?_|refine oz (Z _<|by simp only[go_sem,U,bu,S]) aI ?_|refine oA (λ_=>Z _<|by simp only[go_sem,U,bu,S]) aI ?_|refine oB (λ_=>Z _<|by simp only[go_sem,U,bu,S]) aI ?_|refine ae ?_);simp only[go_sem,U,bu,S])|refine ai ?_|fail
       exact aX<|.of rfl
   ·simp only[cd]at K;omega
end Go.Proofs.YtnmamncmpklliaaGreatDoor

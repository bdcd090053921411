/- What the functions of this seat answer (30 of 53). No condition. -/
import Derived.Test.YtnmamncmpklliaaGreatDoorWorkAL
import Derived.Test.YtnmamncmpklliaaGreatDoorWorkAN
set_option linter.unusedSimpArgs false
set_option linter.unusedVariables false
set_option maxRecDepth 100000
set_option maxHeartbeats 16000000
namespace Go.Proofs.YtnmamncmpklliaaGreatDoor
variable{b r:ag}
open Go.Proofs.Tryz
def G4(b:ag):Option ((Int×Int×Int×Int)×ag):=
 (e9 b).bind fun(c,aO)=>(e9 aO).bind fun(r,bo)=>(e9 bo).bind fun(k,hG)=>(e9 hG).bind fun(de,gW)=>some ((c,r,k,de),gW)
def GU(b:ag):I:=match oj b with
 |none=>.aQ [bh aQV,.str [],.int .i64 50]
 |some (o,r)=>.aQ [bh o,.str r,.int .i64 0]
def O7(b:ag):I:=match iJ b with
 |none=>.aQ [.sl true [],.int .i64 50]
 |some l=>.aQ [.sl false (l.map bh),.int .i64 0]
theorem vo{t:ag}(h:mW b=some (t,r)):t.length<=b.length/\r.length<b.length:=by
 unfold mW at h;cases J:e9 b with
 |none=>rw[J]at h;cases h
 |some p=>
  obtain⟨n,s⟩:=p;rw[J]at h;simp only at h;have:=ml J;split at h
  ·cases h
  ·cases h;rw[eK,fT];omega
theorem aGQ(b:ag):oj b=(G4 b).bind fun((c,r,k,de),gW)=>
  if k=1 then(e9 gW).bind fun(p,mM)=>(mW mM).bind fun(t,J)=>if b0 ⟨⟨c,r⟩,k,de,p,t,[]⟩=true then some (⟨⟨c,r⟩,k,de,p,t,[]⟩,J)else none
  else(mW gW).bind fun(t,J)=>if b0 ⟨⟨c,r⟩,k,de,0,[],t⟩=true then some (⟨⟨c,r⟩,k,de,0,[],t⟩,J)else none:=by
 unfold oj G4;cases e9 b with
 |none=>rfl
 |some x=>
  simp only[fZ];cases e9 x.2 with
  |none=>rfl
  |some y=>
   simp only[fZ];cases e9 y.2 with
   |none=>rfl
   |some z=>
    simp only[fZ];cases e9 z.2<;>rfl
theorem Nj{o:aX}(h:oj b=some (o,r)):r.length<b.length:=by
 unfold oj at h;simp only[ni]at h;obtain⟨⟨c,aO⟩,h1,⟨K,bo⟩,h2,⟨k,hG⟩,h3,⟨de,gW⟩,h4,h⟩:=h;have z:=ml h1;have O:=ml h2;have T:=ml h3;have V:=ml h4;simp only at h O T V;split at h
 ·simp only[ni]at h;obtain⟨⟨p,mM⟩,Z,⟨t,I⟩,J,h⟩:=h;have Sb:=ml Z;have U:=(vo J).2;simp only at h U;split at h
  ·cases h;omega
  ·cases h
 ·simp only[ni]at h;obtain⟨⟨t,I⟩,J,h⟩:=h;have U:=(vo J).2;simp only at h;split at h
  ·cases h;omega
  ·cases h
theorem aDO:∀(n k:Nat) (b:ag),b.length<=n->b.length<=k->o6 k b=o6 b.length b:=by
 intro n;induction n with
 |zero=>intro k b h _;rw[iO (by omega:b.length=0)];cases k<;>rfl
 |succ n J=>
  intro k b h hk;cases b with
  |nil=>cases k<;>rfl
  |cons x b=>
   rw[cg]at h hk;obtain⟨k,rfl⟩:∃m,k=m+1:=⟨k-1,iV⟩
   rw[cg,o6,o6,aj kk,aj kk]
   cases ah:oj (x::b)with
   |none=>rfl
   |some p=>
    obtain⟨o,r⟩:=p;have:=Nj ah;rw[cg]at this;simp only[fZ];rw[J k r iV iV,J b.length r iV iV]
theorem Tu(h:b≠[]):iJ b=(oj b).bind fun(o,r)=>(iJ r).map (o::·):=by
 cases b with
 |nil=>exact absurd rfl h
 |cons x b=>
  unfold iJ;rw[cg,o6,aj kk]
  cases ah:oj (x::b)with
  |none=>rfl
  |some p=>
   obtain⟨o,r⟩:=p;have:=Nj ah;rw[cg]at this;simp only[fZ];rw[aDO _ b.length r (bd _) iV]
theorem aJx{α:Type}{enc:α->I}{s n i v k lc:Nat}{H:ab}{D:List α}(af:n<=i)(J:ay H i=.cells v (aS enc D))(hk:D.length=k)(hs:∀x,(enc x).cells.length=s)(ad:∀x,b6<|enc x):cL n H (.osl s i v 0 k lc) (.sl false<|D.map enc):=
 q3 (es:=D.map enc) (rest:=[]) af J (cA _).symm (by rw[cv,hk]) (λe he=>by(obtain⟨x, -,rfl⟩:=bJ.1 he;exact hs x)) (λe he=>by(obtain⟨x, -,rfl⟩:=bJ.1 he;exact ad x))
theorem aGR(b:ag)(T:b.length<=1073741824)(f:Bool)(i:Nat)(J c1 c2 U K O:I)(x:Int)(H:ab)(V:ay H i=.cells 0 [J,c1,c2,U,.int .i64 x,K,O]):
  dp prog 109 [.str b,.sl f [.ref i 0 4]] H (λr H'=>(e9 b=none/\r=.aQ [.str [],.bool false]/\H'=H)\/∃p rest,e9 b=some (p,rest)/\r=.aQ [.str rest,.bool true]/\H'=ar H i (.cells 0 [J,c1,c2,U,.int .i64 p,K,O])):=by
 refine p3 func109 ?_;have Z:=dk V trivial;have s1:=λb=>dR Z b
 have s2:=jS H i;have z:IntKind.i64.wrap (0+1)=1:=rfl;have ah:=FW b T;unfold xM at ah;refine aW ?_;refine sW 2 ?_;unfold qc;cases h1:e9 b with
 |none=>
  simp only[h1]at ah;refine hH ?_;first|trivial|exact .inl trivial|exact .inl ⟨rfl,rfl,rfl⟩
 |some p=>
  obtain⟨p,rest⟩:=p;simp only[h1]at ah;refine hH ?_;exact .inr ⟨p,rest,rfl,rfl,rfl⟩
theorem aGS(b:ag)(aa:b.length<=1073741824)(f:Bool)(i:Nat)(V Z z:I)(wv fY dW gy:Int)(H:ab)(U:ay H i=.cells 0 [.int .i64 wv,.int .i64 fY,.int .i64 dW,.int .i64 gy,V,Z,z]):
  dp prog 109 [.str b,.sl f [.ref i 0 0,.ref i 0 1,.ref i 0 2,.ref i 0 3]] H (λr H'=>(G4 b=none/\r=.aQ [.str [],.bool false]/\∃X,H'=ar H i X)\/∃K O fh T rest,G4 b=some ((K,O,fh,T),rest)/\rest.length<=b.length/\r=.aQ [.str rest,.bool true]/\H'=ar H i (.cells 0 [.int .i64 K,.int .i64 O,.int .i64 fh,.int .i64 T,V,Z,z])):=by
 refine p3 func109 ?_;have ak:=dk U trivial;have s1:=λb=>dR ak b
 have s2:=jS H i;have cP:IntKind.i64.wrap (0+1)=1:=rfl;have dE:IntKind.i64.wrap (1+1)=2:=rfl;have fX:IntKind.i64.wrap (2+1)=3:=rfl;have gx:IntKind.i64.wrap (3+1)=4:=rfl;have own:=(lr U trivial).symm;have J:∀b:ag,b.length<=1073741824->∀H,aM prog 99 [.str b] H (xM b):=λb h=>FW b h
 unfold xM at J;unfold G4;refine aW ?_;have ah:=J b aa;refine sW 5 ?_;unfold qc;cases h1:e9 b with
 |none=>
  simp only[h1]at ah;repeat' first|(refine ae ?_;simp only[go_sem,U])|refine ao ?_|fail
  first|exact .inl ⟨rfl,_,own⟩|exact .inl ⟨rfl,rfl,_,own⟩|exact .inl ⟨_,own⟩|exact⟨_,own⟩|fail "Q"
 |some p=>
  obtain⟨K,aO⟩:=p;simp only[h1]at ah;have ca:=ml h1;repeat' first|(refine ae ?_;simp only[go_sem,U,s1,s2,cP])|refine ao ?_|fail
  have Cz:=J aO iV
  cases h2:e9 aO with
  |none=>
   simp only[h2]at Cz;repeat' first|(refine ae ?_;simp only[go_sem,s1,s2])|refine ao ?_|fail
   first|exact .inl ⟨by simp[h2],rfl,_,rfl⟩|exact .inl ⟨by simp[h2],_,rfl⟩|exact .inl ⟨_,rfl⟩|fail "R"
  |some p=>
   obtain⟨O,bo⟩:=p;simp only[h2]at Cz;have cy:=ml h2;repeat' first|(refine ae ?_;simp only[go_sem,s1,s2,dE])|refine ao ?_|fail
   have rf:=J bo iV
   cases h3:e9 bo with
   |none=>
    simp only[h3]at rf;repeat' first|(refine ae ?_;simp only[go_sem,s1,s2])|refine ao ?_|fail
    first|exact .inl ⟨by simp[h2,h3],rfl,_,rfl⟩|exact .inl ⟨by simp[h2,h3],_,rfl⟩|exact .inl ⟨_,rfl⟩|fail "R"
   |some p=>
    obtain⟨fh,hG⟩:=p;simp only[h3]at rf;have ku:=ml h3;repeat' first|(refine ae ?_;simp only[go_sem,s1,s2,fX])|refine ao ?_|fail
    have It:=J hG iV
    cases h4:e9 hG with
    |none=>
     simp only[h4]at It;repeat' first|(refine ae ?_;simp only[go_sem,s1,s2])|refine ao ?_|fail
     first|exact .inl ⟨by simp[h2,h3,h4],rfl,_,rfl⟩|exact .inl ⟨by simp[h2,h3,h4],_,rfl⟩|exact .inl ⟨_,rfl⟩|fail "R"
    |some p=>
     obtain⟨T,gW⟩:=p;simp only[h4]at It;have th:=ml h4;repeat' first|(refine ae ?_;simp only[go_sem,s1,s2,gx])|refine ao ?_|fail
     exact .inr ⟨K,O,fh,T,gW,by simp[h2,h3,h4],iV,rfl,rfl⟩
theorem OC(b:ag)(aa:b.length<=1073741824)(H:ab):aM prog 59 [.str b] H (GU b):=by
 refine aZ func59 ?_;unfold GU;rw[aGQ];refine aW ?_;refine dU (aGS b aa true (H.length+1) (.int .i64 0) (.str []) (.str []) 0 0 0 0 _ nb) aK ?_
 rintro v H' (⟨h4,rfl,X,rfl⟩|⟨c,r,k,de,gW,h4,aO3,rfl,rfl⟩)
 ·rw[h4];simp only[go_sem];refine aW ?_;exact aV<|.refl _
 rw[h4];simp only[go_sem,fZ];have T:=Oc ⟨⟨c,r⟩,k,de,0,[],[]⟩;simp only[bh]at T;by_cases hk:k=1
 ·subst hk;simp only[dG]at T ⊢;repeat' first|(refine ae ?_;simp only[go_sem])|refine ao ?_|fail
  refine dU (aGR gW iV true (H.length+1) (.int .i64 c) (.int .i64 r) (.int .i64 1) (.int .i64 de) (.str []) (.str []) 0 _ nb) aK ?_
  rintro v H' (⟨Z,rfl,rfl⟩|⟨q,mM,Z,rfl,rfl⟩)
  ·rw[Z];simp only[go_sem];refine aW ?_;exact aV<|.refl _
  have aXG:=ml Z;rw[Z];simp only[go_sem,fZ];repeat' first|(refine ae ?_;simp only[go_sem])|refine ao ?_|fail
  have U:=FX mM iV
  unfold zC at U;cases J:mW mM with
  |none=>
   simp only[J]at U;repeat' first|(refine ae ?_;simp only[go_sem])|refine ao ?_|fail
   exact aV<|.refl _
  |some p=>
   obtain⟨t,I⟩:=p;simp only[J]at U;have V:=vo J;have K:=Dd ⟨⟨c,r⟩,1,de,q,t,[]⟩ ⟨by simp only;omega,by simp only[eg];omega⟩
   simp only[bh,fZ]at K ⊢;cases O:b0 ⟨⟨c,r⟩,1,de,q,t,[]⟩with
   |true=>
    rw[O]at K;repeat' first|(refine ae ?_;simp only[go_sem])|refine ao ?_|fail
    exact aV<|.refl _
   |false=>
    rw[O]at K;repeat' first|(refine ae ?_;simp only[go_sem])|refine ao ?_|fail
    exact aV<|.refl _
 ·simp only[aj hk]at T ⊢;by_cases z:k=2
  ·subst z;simp only[dG]at T;repeat' first|(refine ae ?_;simp only[go_sem])|refine ao ?_|fail
   have U:=FX gW iV
   unfold zC at U;cases J:mW gW with
   |none=>
    simp only[J]at U;repeat' first|(refine ae ?_;simp only[go_sem])|refine ao ?_|fail
    exact aV<|.refl _
   |some p=>
    obtain⟨t,I⟩:=p;simp only[J]at U;have V:=vo J;have K:=Dd ⟨⟨c,r⟩,2,de,0,[],t⟩ ⟨by simp only[eg];omega,by simp only;omega⟩
    simp only[bh,fZ]at K ⊢;cases O:b0 ⟨⟨c,r⟩,2,de,0,[],t⟩with
    |true=>
     rw[O]at K;repeat' first|(refine ae ?_;simp only[go_sem])|refine ao ?_|fail
     exact aV<|.refl _
    |false=>
     rw[O]at K;repeat' first|(refine ae ?_;simp only[go_sem])|refine ao ?_|fail
     exact aV<|.refl _
  ·simp only[aj z]at T;repeat' first|(refine ae ?_;simp only[go_sem])|refine ao ?_|fail
   have U:=FX gW iV
   unfold zC at U;cases J:mW gW with
   |none=>
    simp only[J]at U;repeat' first|(refine ae ?_;simp only[go_sem])|refine ao ?_|fail
    exact aV<|.refl _
   |some p=>
    obtain⟨t,I⟩:=p;simp only[J]at U;have V:=vo J;have K:=Dd ⟨⟨c,r⟩,k,de,0,[],t⟩ ⟨by simp only[eg];omega,by simp only;omega⟩
    simp only[bh,fZ]at K ⊢;cases O:b0 ⟨⟨c,r⟩,k,de,0,[],t⟩with
    |true=>
     rw[O]at K;repeat' first|(refine ae ?_;simp only[go_sem])|refine ao ?_|fail
     exact aV<|.refl _
    |false=>
     rw[O]at K;repeat' first|(refine ae ?_;simp only[go_sem])|refine ao ?_|fail
     exact aV<|.refl _
theorem aGT(b:ag)(aa:b.length<=1073741824)(H:ab):aM prog 58 [.str b] H (O7 b):=by
 refine aZ func58 ?_;refine hH ?_;refine y2 4 7 rfl ?_;refine cE (ι:=List aX×ag×ab) (λs=>[(0,.str s.2.1),(4,.osl 7 H.length (s.1.length+1) 0 s.1.length s.1.length)]) (λs=>H++(.cells (s.1.length+1) (aS bh s.1)::s.2.2)) (λs=>s.1.length+s.2.1.length<=b.length/\iJ b=(iJ s.2.1).map (s.1++·)) (λs=>s.2.1.length) ([],b,[]) ⟨kk,kk⟩ ?_ rfl ?_
 ·simp[go_sem]
 rintro⟨acc,r,M⟩ ⟨hl,J⟩;simp only at hl J ⊢;unfold O7;obtain⟨G,aW⟩:∃G,H++(.cells (acc.length+1) (aS bh acc)::M)=G:=⟨_,rfl⟩;rw[aW];have g0:ay G H.length=.cells (acc.length+1) (aS bh acc):=by rw[<-aW];simp only[go_sem]
 have g1:=bC g0 trivial;have g2:=gN g0 trivial;have gs:∀X,ar G H.length X=H++(X::M):=λX=>by rw[<-aW];simp only[go_sem]
 by_cases af:r=[]
 ·have hd:decide (r=[])=true:=cD af;subst af;have K:iJ b=some acc:=by rw[J];simp[iJ,o6]
  rw[K];refine hH ?_;exact⟨_,.aQ [.sl false (acc.map bh),.int .i64 0],aW.symm,.aQ _ _ rfl<|dj (aJx (bd _) g0 rfl (λ_=>rfl) (λx=>nb)) (dj (.cl _ (.int _ _)) fw),rfl⟩
 have hd:decide (r=[])=false:=bN af;have U:=OC r iV
 unfold GU at U;rw[Tu af]at J;cases ah:oj r with
 |none=>
  simp only[ah,bh]at U;rw[ah]at J;rw[show iJ b=none from J]
  refine hH ?_;exact BB aW nb<|.refl _
 |some p=>
  obtain⟨o,O⟩:=p;have T:=Nj ah;simp only[ah,bh]at U;have RG:0<r.length:=pe.2 af;have V:(∀e,e=I.agg [.int .i64 o.at_.c,.int .i64 o.at_.r,.int .i64 o.kind,.int .i64 o.node,.int .i64 o.parent,.str o.name,.str o.data]->e.cells.length=7)=True:=b5 λe he=>by rw[he];rfl
  have Z:((acc.length+1) * 72<=140737488355328)=True:=b5 iV
  have z:=ej (enc:=bh) (s:=7) (λ_=>rfl) acc
  repeat' first|(refine ae ?_;simp only[go_sem,hd,V,Z,z,g0,g1,g2])|refine ao ?_|fail
  refine⟨(acc++[o],O,M++[.cells 0 (bh o).cells]),⟨by simp only[bF,cg,eg];omega,?_⟩,T,?_⟩
  ·simp only;rw[J,ah];simp only[fZ,Option.map_map];congr 1;funext l;simp
  ·simp only[gs,bF,cg,eg,iR,q1,JK,cA,bh,I.cells,dr,iN];refine⟨⟨?_,?_⟩,?_⟩<;>first|trivial|rfl
end Go.Proofs.YtnmamncmpklliaaGreatDoor

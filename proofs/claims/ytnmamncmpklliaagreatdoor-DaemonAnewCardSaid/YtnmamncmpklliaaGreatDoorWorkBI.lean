/- What the functions of this seat answer (35 of 53). No condition. -/
import Derived.Test.YtnmamncmpklliaaGreatDoorWorkAQ
import Derived.Test.YtnmamncmpklliaaGreatDoorWorkAS
set_option linter.unusedSimpArgs false
set_option linter.unusedVariables false
set_option maxRecDepth 100000
set_option maxHeartbeats 16000000
namespace Go.Proofs.YtnmamncmpklliaaGreatDoor
variable{l:List aE}{i j:Nat}{c:b8}{d:cn}{G:ab}
open Go.Proofs.Tryz
structure np (c:b8):Prop where
 path:c.path.length<=1048576
 to:c.to.length<=1048576
 data:c.data.length<=1048576
theorem Vd{p:ag}{dir:Int}{s:ag}(h:iQ l p=(dir,s,0)):s.length<=80:=by
 obtain⟨J,af, -, -⟩:=OG h;exact GQ<|Ld af s kk
theorem Xm(J:gE i j c d G)(hs:oD d.m)(au:np c)(hl:d.ops.length<=1000000):sw prog 265 i j c (zW c d) G:=by
 refine jw func265 ?_;have U:=J.aO;have K:=bC J.aO trivial;have V:=bC J.bo trivial;have aN:=J.ne;have dd:=J.ey;have c8:=J.fq;have bb:=J.bb;have bf:=J.bf;have Z:=bc G i;simp only[fG]at U K;have I:=qC dd c8 aN rfl;unfold zW;by_cases h1:c.path=[47]
 ·have d1:decide (c.path=[47])=true:=cD h1;rw[aA h1];refine hH ?_;exact jT J rfl J.own.symm
 have d1:decide (c.path=[47])=false:=bN h1;rw[aj h1];have z:=Yy false d.m.log.nodes c.path (by have:=hs.nodes;omega) au.path
 obtain⟨⟨dir,s,e⟩,aF⟩:∃x,iQ d.m.log.nodes c.path=x:=⟨_,rfl⟩;rw[aF]at z ⊢;simp only[Ea]at z;by_cases he:e=0
 ·subst he;simp only[dG];have iW:=Ko false d.m.log.nodes dir s (by have:=hs.nodes;omega)
  cases q6:fx d.m.log.nodes dir s with
  |some n=>
   simp only[q6,zf,wC,pW,zn]at iW;simp only[zn,dG];refine hH ?_;exact jT J rfl J.own.symm
  |none=>
   simp only[q6,zf,Dm,Dt,Dn]at iW;rw[aj kk]
   have mr:=λL=>OQ j c d i (by have:=hs.cZ;omega) (G++L) (J.app L).aO
   have O:=OQ j c d i (by have:=hs.cZ;omega) G J.aO
   obtain⟨⟨st,f⟩,af⟩:∃x,gv d.m=x:=⟨_,rfl⟩;simp only[af,C6]at mr O ⊢;by_cases T:f=0
   ·subst T;rw[aA rfl];have iB:=aLZ st.c st.r<|decide (c.kind=1);repeat' first|((first|refine jg O ?_|refine ae ?_);simp only[go_sem,U,K,V,bb,bf,Z,I,bc,d1])|refine ao ?_|fail
    refine dU (Kq (J.app _) hs (o:=⟨nN,1,o0 st.c st.r<|decide (c.kind=1),dir,s,[]⟩) ⟨by have:=Vd aF;simp only;omega,kk⟩ hl) aK ?_
    rintro v H' ⟨rfl,rfl⟩;rw[J.EM];simp only[go_sem];refine aW ?_;exact uB J rfl rfl
   ·have hd:decide (f=0)=false:=bN T;rw[aj T];repeat' first|((first|refine jg O ?_|refine ae ?_);simp only[go_sem,U,K,V,bb,bf,Z,I,bc,d1,hd])|refine ao ?_|fail
    exact uB J rfl J.own.symm
 ·have hd:decide (e=0)=false:=bN he;simp only[aj he];refine hH ?_;exact jT J rfl J.own.symm
theorem aGY(J:gE i j c d G)(hs:oD d.m)(U:np c)(hl:d.ops.length<=1000000):sw prog 266 i j c (zE c d) G:=by
 refine jw func266 ?_;have V:=J.aO;have Z:=bC J.aO trivial;have a8:=bC J.bo trivial;have I:=J.ne;have z:=J.ey;have c8:=J.fq;have bb:=J.bb;have bf:=J.bf;have b7:=bc G i;simp only[fG]at V Z;have bG:=qC z c8 I rfl;unfold zE;have K:=Eb false d.m.log.nodes c.path (by have:=hs.nodes;omega) U.path
 obtain⟨⟨id,e⟩,aF⟩:∃x,fi d.m.log.nodes c.path=x:=⟨_,rfl⟩;rw[aF]at K ⊢;simp only[uL]at K;by_cases he:e=0
 ·subst he;simp only[dG];have O:=uV id;cases T:dm id with
  |true=>
   rw[T]at O;rw[aA rfl];refine hH ?_;exact jT J rfl J.own.symm
  |false=>
   rw[T]at O;rw[aj kk]
   refine hH ?_;refine dU (Kq J hs (o:=⟨nN,2,id,0,[],c.data⟩) ⟨kk,by have:=U.data;simp only;omega⟩ hl) aK ?_
   rintro v H' ⟨rfl,rfl⟩;simp only[go_sem];refine aW ?_;exact jT J rfl rfl
 ·have hd:decide (e=0)=false:=bN he;simp only[aj he];refine hH ?_;exact jT J rfl J.own.symm
theorem UP{m:c0}(hs:oD m){n:Int}(h:qv m n=some l):l.length<=1000000:=by
 unfold qv at h;split at h
 ·cases h;exact hs.nodes
 ·obtain⟨s,J,rfl⟩:=hC.1 h;exact hs.snap s<|sC J
theorem aIU(J:gE i j c d G)(hs:oD d.m)(au:np c)(jF:∀l,qv d.m c.n=some l->tO l):sw prog 267 i j c (D4 c d) G:=by
 refine jw func267 ?_;have K:=J.aO;have O:=bC J.aO trivial;have T:=bC J.bo trivial;have aN:=J.ne;have dd:=J.ey;have c8:=J.fq;have bb:=J.bb;have bf:=J.bf;have V:=bc G i;simp only[fG]at K O;have Z:=qC dd c8 aN rfl;unfold D4;have U:=W8 d.m c.n i _ hs.cN G J.aO;cases af:qv d.m c.n with
 |none=>
  rw[af]at U;simp only[GR]at U;repeat' first|((first|refine jg U ?_|refine ae ?_);simp only[go_sem,K,O,T,bb,bf,V,Z,bc])|refine ao ?_|fail
  exact jT J rfl J.own.symm
 |some l=>
  rw[af]at U;simp only[GR]at U;have hl:l.length<=1000000:=UP hs af;have I:=Eb false l c.path iV au.path
  simp only;obtain⟨⟨id,e⟩,aF⟩:∃x,fi l c.path=x:=⟨_,rfl⟩;rw[aF]at I ⊢;simp only[uL]at I;by_cases he:e=0
  ·subst he;simp only[dG];have z:=uV id;cases eC:dm id with
   |true=>
    rw[eC]at z;rw[aA rfl];repeat' first|((first|refine jg U ?_|refine ae ?_);simp only[go_sem,K,O,T,bb,bf,V,Z,bc])|refine ao ?_|fail
    exact jT J rfl J.own.symm
   |false=>
    rw[eC]at z;rw[aj kk]
    have ax:=aKA false l id;simp only[aBx,ba]at ax;repeat' first|((first|refine jg U ?_|refine ae ?_);simp only[go_sem,K,O,T,bb,bf,V,Z,bc])|refine ao ?_|fail
    exact uB J rfl<|J.one (d':={d with a:={d.a with data:=((zB l id).getD uI).data}}) rfl
  ·have hd:decide (e=0)=false:=bN he;simp only[aj he];repeat' first|((first|refine jg U ?_|refine ae ?_);simp only[go_sem,K,O,T,bb,bf,V,Z,bc,hd])|refine ao ?_|fail
   exact jT J rfl J.own.symm
theorem aLU(J:gE i j c d G)(hs:oD d.m)(au:np c)(jF:∀l,qv d.m c.n=some l->tO l):sw prog 270 i j c (Ft c d) G:=by
 refine jw func270 ?_;have K:=J.aO;have O:=bC J.aO trivial;have T:=bC J.bo trivial;have aN:=J.ne;have dd:=J.ey;have c8:=J.fq;have bb:=J.bb;have bf:=J.bf;have V:=bc G i;simp only[fG]at K O;have Z:=qC dd c8 aN rfl;unfold Ft;have U:=W8 d.m c.n i _ hs.cN G J.aO;cases af:qv d.m c.n with
 |none=>
  rw[af]at U;simp only[GR]at U;repeat' first|((first|refine jg U ?_|refine ae ?_);simp only[go_sem,K,O,T,bb,bf,V,Z,bc])|refine ao ?_|fail
  exact jT J rfl J.own.symm
 |some l=>
  rw[af]at U;simp only[GR]at U;have hl:l.length<=1000000:=UP hs af;have I:=Eb false l c.path iV au.path
  simp only;obtain⟨⟨id,e⟩,aF⟩:∃x,fi l c.path=x:=⟨_,rfl⟩;rw[aF]at I ⊢;simp only[uL]at I;by_cases he:e=0
  ·subst he;simp only[dG];have z:=uV id;cases eC:dm id with
   |true=>
    rw[eC]at z;rw[aA rfl];have ax:=aMh false l id iV<|jF l af
    repeat' first|((first|refine jg U ?_|refine ae ?_);simp only[go_sem,K,O,T,bb,bf,V,Z,bc])|refine ao ?_|fail
    exact jT J rfl<|J.one (d':={d with a:={d.a with names:=yh l id}}) rfl
   |false=>
    rw[eC]at z;rw[aj kk]
    repeat' first|((first|refine jg U ?_|refine ae ?_);simp only[go_sem,K,O,T,bb,bf,V,Z,bc])|refine ao ?_|fail
    exact jT J rfl J.own.symm
  ·have hd:decide (e=0)=false:=bN he;simp only[aj he];repeat' first|((first|refine jg U ?_|refine ae ?_);simp only[go_sem,K,O,T,bb,bf,V,Z,bc,hd])|refine ao ?_|fail
   exact jT J rfl J.own.symm
theorem aFP(J:gE i j c d G)(hs:oD d.m)(K:np c)(hl:d.ops.length<=1000000):sw prog 269 i j c (Bd c d) G:=by
 refine jw func269 ?_;have V:=J.aO;have Z:=bC J.aO trivial;have a8:=bC J.bo trivial;have z:=J.ne;have dd:=J.ey;have c8:=J.fq;have bb:=J.bb;have bf:=J.bf;have b7:=bc G i;simp only[fG]at V Z;have bG:=qC dd c8 z rfl;unfold Bd;by_cases h1:c.path=[47]
 ·have d1:decide (c.path=[47])=true:=cD h1;rw[aA h1];refine hH ?_;exact jT J rfl J.own.symm
 have d1:decide (c.path=[47])=false:=bN h1;rw[aj h1];have O:=Eb false d.m.log.nodes c.path (by have:=hs.nodes;omega) K.path
 obtain⟨⟨id,e⟩,aF⟩:∃x,fi d.m.log.nodes c.path=x:=⟨_,rfl⟩;rw[aF]at O ⊢;simp only[uL]at O;by_cases he:e=0
 ·subst he;simp only[dG];have U:=Gj c.path K.path;unfold ly at U;cases af:gB c.path with
  |none=>
   simp only[af]at U;refine hH ?_;exact jT J rfl J.own.symm
  |some cb=>
   simp only[af,d1]at U;cases cb with
   |nil=>
    refine hH ?_;exact jT J rfl J.own.symm
   |cons x xs=>
    have hlen:=IP af;rw[cg]at hlen;have hw:IntKind.i64.wrap (((xs.length+1:Nat):Int)-1)=(xs.length:Int):=by rw[bI];omega
    have hd:decide (((xs.length+1:Nat):Int)=0)=false:=cQ;have ck:(I.str x::xs.map I.str).getD xs.length .top=.str ((x::xs).getLast kk):=by
     rw[<-dz (f:=I.str),di I.str kk,List.getLast_eq_getElem];simp
    have ak:xs.length<xs.length+1:=Nat.lt_succ_self _;have jF:((x::xs).getLast kk).length<=80:=GQ<|Ld af _ (List.getLast_mem _)
    obtain⟨s,T⟩:∃s,(x::xs).getLast kk=s:=⟨_,rfl⟩
    rw[T]at ck jF;simp only[T];refine hH ?_;refine dU (Kq J hs (o:=⟨nN,1,id,2,s,[]⟩) ⟨by simp only;omega,kk⟩ hl) aK ?_
    rintro v H' ⟨rfl,rfl⟩;simp only[go_sem];refine aW ?_;exact jT J rfl rfl
 ·have hd:decide (e=0)=false:=bN he;simp only[aj he];refine hH ?_;exact jT J rfl J.own.symm
theorem aIV(J:gE i j c d G)(hs:oD d.m)(T:np c)(hl:d.ops.length<=1000000):sw prog 268 i j c (zP c d) G:=by
 refine jw func268 ?_;have V:=J.aO;have Z:=bC J.aO trivial;have a8:=bC J.bo trivial;have aN:=J.ne;have dd:=J.ey;have c8:=J.fq;have bb:=J.bb;have bf:=J.bf;have b7:=bc G i;simp only[fG]at V Z;have bG:=qC dd c8 aN rfl;unfold zP;by_cases h1:c.path=[47]
 ·have d1:decide (c.path=[47])=true:=cD h1;rw[aA (.inl h1)];refine hH ?_;exact jT J rfl J.own.symm
 have d1:decide (c.path=[47])=false:=bN h1;by_cases h2:c.to=[47]
 ·have d2:decide (c.to=[47])=true:=cD h2;rw[aA (.inr h2)];refine hH ?_;exact jT J rfl J.own.symm
 have d2:decide (c.to=[47])=false:=bN h2;rw[aj (by rintro(h|h)<;>contradiction)]
 have I:=Eb false d.m.log.nodes c.path (by have:=hs.nodes;omega) T.path
 obtain⟨⟨id,e⟩,aF⟩:∃x,fi d.m.log.nodes c.path=x:=⟨_,rfl⟩;rw[aF]at I ⊢;simp only[uL]at I;by_cases he:e=0
 ·subst he;simp only[dG];have z:=Yy false d.m.log.nodes c.to (by have:=hs.nodes;omega) T.to
  obtain⟨⟨dir,s,f⟩,U⟩:∃x,iQ d.m.log.nodes c.to=x:=⟨_,rfl⟩;rw[U]at z ⊢;simp only[Ea]at z;by_cases K:f=0
  ·subst K;simp only[dG];have iW:=Ko false d.m.log.nodes dir s (by have:=hs.nodes;omega)
   cases q6:fx d.m.log.nodes dir s with
   |some n=>
    simp only[q6,zf,wC,pW,zn]at iW;simp only[zn,dG];refine hH ?_;exact jT J rfl J.own.symm
   |none=>
    simp only[q6,zf,Dm,Dt,Dn]at iW;rw[aj kk]
    by_cases O:dir=id
    ·have Hw:decide (dir=id)=true:=cD O;rw[aA (.inl O)];repeat' first|(refine ae ?_;simp only[go_sem,V,Z,a8,bb,bf,b7,bG,bc,d1,d2,Hw])|refine ao ?_|fail
     exact jT J rfl J.own.symm
    have Hw:decide (dir=id)=false:=bN O;have jG:=OY false d.m.log.nodes dir (by have:=hs.nodes;omega)
    have EN:=Jg false (og d.m.log.nodes dir) id;have Ch:((og d.m.log.nodes dir).any λx=>decide<|x=id)=(og d.m.log.nodes dir).contains id:=by rw[pf];simp
    cases bL:(og d.m.log.nodes dir).contains id with
    |true=>
     rw[aA (.inr rfl)];simp only[Ch,bL]at EN;refine hH ?_;exact jT J rfl J.own.symm
    |false=>
     rw[aj (by rintro(h|h)<;>contradiction)]
     simp only[Ch,bL]at EN;refine hH ?_;refine dU (Kq J hs (o:=⟨nN,1,id,dir,s,[]⟩) ⟨by have:=Vd U;simp only;omega,kk⟩ hl) aK ?_
     rintro v H' ⟨rfl,rfl⟩;simp only[go_sem];refine aW ?_;exact jT J rfl rfl
  ·have hd:decide (f=0)=false:=bN K;simp only[aj K];refine hH ?_;exact jT J rfl J.own.symm
 ·have hd:decide (e=0)=false:=bN he;simp only[aj he];refine hH ?_;exact jT J rfl J.own.symm
end Go.Proofs.YtnmamncmpklliaaGreatDoor

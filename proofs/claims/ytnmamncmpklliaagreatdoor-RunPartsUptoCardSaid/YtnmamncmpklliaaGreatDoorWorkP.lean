/- What functions answer. No condition. -/
import Derived.Test.YtnmamncmpklliaaGreatDoorWorkI
set_option linter.unusedSimpArgs false
set_option linter.unusedVariables false
set_option maxRecDepth 100000
set_option maxHeartbeats 16000000
namespace Go.Proofs.YtnmamncmpklliaaGreatDoor
variable{l:List aH}{i j:Nat}{c:cg}{d:cB}{G:ab}
open Go.Proofs.Tryz
structure o3 (c:cg):Prop where
 path:c.path.length<=1048576
 to:c.to.length<=1048576
 data:c.data.length<=1048576
theorem VT{p:al}{dir:Int}{s:al}(h:jn l p=(dir,s,0)):s.length<=80:=by obtain⟨J,af, -, -⟩:=Pg h;exact Lc<|LP af s hW
theorem ZW(J:gL i j c d G)(hs:oo d.m)(ao:o3 c)(hl:d.ops.length<=1000000):rP prog 265 i j c (Am c d) G:=by
 refine h9 func265 ?_;have U:=J.aW;have K:=bE J.aW trivial;have T:=bE J.bA trivial;have aT:=J.ne;have cM:=J.eV;have cH:=J.fF;have a6:=J.a6;have bb:=J.bb;have V:=bc G i;simp only[fN]at U K;have Z:=od cM cH aT rfl;unfold Am;by_cases h1:c.path=[47]
 ·have d1:decide (c.path=[47])=true:=dr h1;rw[aC h1];refine hH ?_;exact jX J rfl J.own.symm
 have d1:decide (c.path=[47])=false:=b0 h1;rw[ar h1];have I:=Zm false d.m.log.nodes c.path (oC hs.nodes) ao.path;obtain⟨⟨dir,s,e⟩,z⟩:∃x,jn d.m.log.nodes c.path=x:=⟨_,rfl⟩;rw[z]at I ⊢;simp only[EE]at I;by_cases he:e=0
 ·subst he;simp only[dW];have jM:=La false d.m.log.nodes dir s (oC hs.nodes);cases qW:fz d.m.log.nodes dir s with
  |some n=>simp only[qW,zs,vj,o0,wX]at jM;simp only[wX,dW];refine hH ?_;exact jX J rfl J.own.symm
  |none=>
   simp only[qW,zs,DV,DO,DP]at jM;rw[ar hW];have nv:=λL=>Pl j c d i (oC hs.c8) (G++L) (J.app L).aW;have O:=Pl j c d i (oC hs.c8) G J.aW;obtain⟨⟨st,f⟩,af⟩:∃x,gJ d.m=x:=⟨_,rfl⟩;simp only[af,DC]at nv O ⊢;by_cases S:f=0
   ·subst S;rw[aC rfl];have jh:=aMt st.c st.r<|decide (c.kind=1);repeat' first|((first|refine hI O ?_|refine ae ?_);simp only[go_sem,U,K,T,a6,bb,V,Z,bc,d1])|refine ai ?_|fail
    refine c4 (Lh (J.app _) hs (o:=⟨nD,1,oQ st.c st.r<|decide (c.kind=1),dir,s,[]⟩) ⟨by have:=VT z;simp only;omega,hW⟩ hl) aI ?_
    rintro v H' ⟨rfl,rfl⟩;rw[J.pV];simp only[go_sem];refine a7 ?_;exact uX J rfl rfl
   ·have hd:decide (f=0)=false:=b0 S;rw[ar S];repeat' first|((first|refine hI O ?_|refine ae ?_);simp only[go_sem,U,K,T,a6,bb,V,Z,bc,d1,hd])|refine ai ?_|fail
    exact uX J rfl J.own.symm
 ·have hd:decide (e=0)=false:=b0 he;simp only[ar he];refine hH ?_;exact jX J rfl J.own.symm
theorem aMh(J:gL i j c d G)(hs:oo d.m)(U:o3 c)(hl:d.ops.length<=1000000):rP prog 266 i j c (Aa c d) G:=by
 refine h9 func266 ?_;have T:=J.aW;have V:=bE J.aW trivial;have aY:=bE J.bA trivial;have Z:=J.ne;have I:=J.eV;have z:=J.fF;have a6:=J.a6;have bb:=J.bb;have b3:=bc G i;simp only[fN]at T V;have bI:=od I z Z rfl;unfold Aa;have K:=EL false d.m.log.nodes c.path (oC hs.nodes) U.path;obtain⟨⟨id,e⟩,aG⟩:∃x,ft d.m.log.nodes c.path=x:=⟨_,rfl⟩;rw[aG]at K ⊢;simp only[u4]at K;by_cases he:e=0
 ·subst he;simp only[dW];have O:=va id;cases S:dv id with
  |true=>rw[S]at O;rw[aC rfl];refine hH ?_;exact jX J rfl J.own.symm
  |false=>
   rw[S]at O;rw[ar hW];refine hH ?_;refine c4 (Lh J hs (o:=⟨nD,2,id,0,[],c.data⟩) ⟨hW,by have:=U.data;simp only;omega⟩ hl) aI ?_
   rintro v H' ⟨rfl,rfl⟩;simp only[go_sem];refine a7 ?_;exact jX J rfl rfl
 ·have hd:decide (e=0)=false:=b0 he;simp only[ar he];refine hH ?_;exact jX J rfl J.own.symm
theorem VE{m:di}(hs:oo m){n:Int}(h:qe m n=some l):l.length<=1000000:=by
 unfold qe at h;split at h
 ·cases h;exact hs.nodes
 ·obtain⟨s,J,rfl⟩:=gA.1 h;exact hs.snap s<|sD J
theorem aMH(J:gL i j c d G)(hs:oo d.m)(ao:o3 c)(n1:∀l,qe d.m c.n=some l->rI l):rP prog 267 i j c (EA c d) G:=by
 refine h9 func267 ?_;have K:=J.aW;have O:=bE J.aW trivial;have S:=bE J.bA trivial;have aT:=J.ne;have cM:=J.eV;have cH:=J.fF;have a6:=J.a6;have bb:=J.bb;have T:=bc G i;simp only[fN]at K O;have V:=od cM cH aT rfl;unfold EA;have U:=XX d.m c.n i _ hs.dh G J.aW;cases af:qe d.m c.n with
 |none=>
  rw[af]at U;simp only[HG]at U;repeat' first|((first|refine hI U ?_|refine ae ?_);simp only[go_sem,K,O,S,a6,bb,T,V,bc])|refine ai ?_|fail
  exact jX J rfl J.own.symm
 |some l=>
  rw[af]at U;simp only[HG]at U;have hl:l.length<=1000000:=VE hs af;have Z:=EL false l c.path gf ao.path;simp only;obtain⟨⟨id,e⟩,aG⟩:∃x,ft l c.path=x:=⟨_,rfl⟩;rw[aG]at Z ⊢;simp only[u4]at Z;by_cases he:e=0
  ·subst he;simp only[dW];have I:=va id;cases z:dv id with
   |true=>
    rw[z]at I;rw[aC rfl];repeat' first|((first|refine hI U ?_|refine ae ?_);simp only[go_sem,K,O,S,a6,bb,T,V,bc])|refine ai ?_|fail
    exact jX J rfl J.own.symm
   |false=>
    rw[z]at I;rw[ar hW];have aA:=aKp false l id;simp only[aCr,bj]at aA;repeat' first|((first|refine hI U ?_|refine ae ?_);simp only[go_sem,K,O,S,a6,bb,T,V,bc])|refine ai ?_|fail
    exact uX J rfl<|J.one (d':={d with a:={d.a with data:=((z6 l id).getD uU).data}}) rfl
  ·have hd:decide (e=0)=false:=b0 he;simp only[ar he];repeat' first|((first|refine hI U ?_|refine ae ?_);simp only[go_sem,K,O,S,a6,bb,T,V,bc,hd])|refine ai ?_|fail
   exact jX J rfl J.own.symm
theorem aM3(J:gL i j c d G)(hs:oo d.m)(ao:o3 c)(n1:∀l,qe d.m c.n=some l->rI l):rP prog 270 i j c (Gl c d) G:=by
 refine h9 func270 ?_;have K:=J.aW;have O:=bE J.aW trivial;have S:=bE J.bA trivial;have aT:=J.ne;have cM:=J.eV;have cH:=J.fF;have a6:=J.a6;have bb:=J.bb;have T:=bc G i;simp only[fN]at K O;have V:=od cM cH aT rfl;unfold Gl;have U:=XX d.m c.n i _ hs.dh G J.aW;cases af:qe d.m c.n with
 |none=>
  rw[af]at U;simp only[HG]at U;repeat' first|((first|refine hI U ?_|refine ae ?_);simp only[go_sem,K,O,S,a6,bb,T,V,bc])|refine ai ?_|fail
  exact jX J rfl J.own.symm
 |some l=>
  rw[af]at U;simp only[HG]at U;have hl:l.length<=1000000:=VE hs af;have Z:=EL false l c.path gf ao.path;simp only;obtain⟨⟨id,e⟩,aG⟩:∃x,ft l c.path=x:=⟨_,rfl⟩;rw[aG]at Z ⊢;simp only[u4]at Z;by_cases he:e=0
  ·subst he;simp only[dW];have I:=va id;cases z:dv id with
   |true=>
    rw[z]at I;rw[aC rfl];have aA:=aMA false l id gf<|n1 l af
    repeat' first|((first|refine hI U ?_|refine ae ?_);simp only[go_sem,K,O,S,a6,bb,T,V,bc])|refine ai ?_|fail
    exact jX J rfl<|J.one (d':={d with a:={d.a with names:=yD l id}}) rfl
   |false=>
    rw[z]at I;rw[ar hW];repeat' first|((first|refine hI U ?_|refine ae ?_);simp only[go_sem,K,O,S,a6,bb,T,V,bc])|refine ai ?_|fail
    exact jX J rfl J.own.symm
  ·have hd:decide (e=0)=false:=b0 he;simp only[ar he];repeat' first|((first|refine hI U ?_|refine ae ?_);simp only[go_sem,K,O,S,a6,bb,T,V,bc,hd])|refine ai ?_|fail
   exact jX J rfl J.own.symm
theorem aLC(J:gL i j c d G)(hs:oo d.m)(K:o3 c)(hl:d.ops.length<=1000000):rP prog 269 i j c (BA c d) G:=by
 refine h9 func269 ?_;have T:=J.aW;have V:=bE J.aW trivial;have aY:=bE J.bA trivial;have Z:=J.ne;have z:=J.eV;have cH:=J.fF;have a6:=J.a6;have bb:=J.bb;have b3:=bc G i;simp only[fN]at T V;have bI:=od z cH Z rfl;unfold BA;by_cases h1:c.path=[47]
 ·have d1:decide (c.path=[47])=true:=dr h1;rw[aC h1];refine hH ?_;exact jX J rfl J.own.symm
 have d1:decide (c.path=[47])=false:=b0 h1;rw[ar h1];have O:=EL false d.m.log.nodes c.path (oC hs.nodes) K.path;obtain⟨⟨id,e⟩,aG⟩:∃x,ft d.m.log.nodes c.path=x:=⟨_,rfl⟩;rw[aG]at O ⊢;simp only[u4]at O;by_cases he:e=0
 ·subst he;simp only[dW];have U:=Hm c.path K.path;unfold lB at U;cases af:gD c.path with
  |none=>simp only[af]at U;refine hH ?_;exact jX J rfl J.own.symm
  |some ca=>
   simp only[af,d1]at U;cases ca with
   |nil=>refine hH ?_;exact jX J rfl J.own.symm
   |cons x xs=>
    have hlen:=JI af;rw[cd]at hlen;have hw:IntKind.i64.wrap (((xs.length+1:Nat):Int)-1)=(xs.length:Int):=by rw[bS];omega
    have hd:decide (((xs.length+1:Nat):Int)=0)=false:=dA;have cA:(I.str x::xs.map I.str).getD xs.length .top=.str ((x::xs).getLast hW):=by rw[<-dO (f:=I.str),ek I.str hW,List.getLast_eq_getElem];simp
    have av:xs.length<xs.length+1:=Nat.lt_succ_self _;have n1:((x::xs).getLast hW).length<=80:=Lc<|LP af _ (List.getLast_mem _)
    obtain⟨s,S⟩:∃s,(x::xs).getLast hW=s:=⟨_,rfl⟩;rw[S]at cA n1;simp only[S];refine hH ?_;refine c4 (Lh J hs (o:=⟨nD,1,id,2,s,[]⟩) ⟨by simp only;omega,hW⟩ hl) aI ?_
    rintro v H' ⟨rfl,rfl⟩;simp only[go_sem];refine a7 ?_;exact jX J rfl rfl
 ·have hd:decide (e=0)=false:=b0 he;simp only[ar he];refine hH ?_;exact jX J rfl J.own.symm
theorem aMI(J:gL i j c d G)(hs:oo d.m)(S:o3 c)(hl:d.ops.length<=1000000):rP prog 268 i j c (Ad c d) G:=by
 refine h9 func268 ?_;have T:=J.aW;have V:=bE J.aW trivial;have aY:=bE J.bA trivial;have aT:=J.ne;have cM:=J.eV;have cH:=J.fF;have a6:=J.a6;have bb:=J.bb;have b3:=bc G i;simp only[fN]at T V;have bI:=od cM cH aT rfl;unfold Ad;by_cases h1:c.path=[47]
 ·have d1:decide (c.path=[47])=true:=dr h1;rw[aC (.inl h1)];refine hH ?_;exact jX J rfl J.own.symm
 have d1:decide (c.path=[47])=false:=b0 h1;by_cases h2:c.to=[47]
 ·have d2:decide (c.to=[47])=true:=dr h2;rw[aC (.inr h2)];refine hH ?_;exact jX J rfl J.own.symm
 have d2:decide (c.to=[47])=false:=b0 h2;rw[ar (by rintro(h|h)<;>contradiction)]
 have Z:=EL false d.m.log.nodes c.path (oC hs.nodes) S.path;obtain⟨⟨id,e⟩,aG⟩:∃x,ft d.m.log.nodes c.path=x:=⟨_,rfl⟩;rw[aG]at Z ⊢;simp only[u4]at Z;by_cases he:e=0
 ·subst he;simp only[dW];have I:=Zm false d.m.log.nodes c.to (oC hs.nodes) S.to;obtain⟨⟨dir,s,f⟩,U⟩:∃x,jn d.m.log.nodes c.to=x:=⟨_,rfl⟩;rw[U]at I ⊢;simp only[EE]at I;by_cases K:f=0
  ·subst K;simp only[dW];have z:=La false d.m.log.nodes dir s (oC hs.nodes);cases qW:fz d.m.log.nodes dir s with
   |some n=>simp only[qW,zs,vj,o0,wX]at z;simp only[wX,dW];refine hH ?_;exact jX J rfl J.own.symm
   |none=>
    simp only[qW,zs,DV,DO,DP]at z;rw[ar hW];by_cases O:dir=id
    ·have IB:decide (dir=id)=true:=dr O;rw[aC (.inl O)];repeat' first|(refine ae ?_;simp only[go_sem,T,V,aY,a6,bb,b3,bI,bc,d1,d2,IB])|refine ai ?_|fail
     exact jX J rfl J.own.symm
    have IB:decide (dir=id)=false:=b0 O;have j1:=PE false d.m.log.nodes dir (oC hs.nodes);have Fy:=Ka false (n4 d.m.log.nodes dir) id;have CE:((n4 d.m.log.nodes dir).any λx=>decide<|x=id)=(n4 d.m.log.nodes dir).contains id:=by rw[zL];simp
    cases bK:(n4 d.m.log.nodes dir).contains id with
    |true=>rw[aC (.inr rfl)];simp only[CE,bK]at Fy;refine hH ?_;exact jX J rfl J.own.symm
    |false=>
     rw[ar (by rintro(h|h)<;>contradiction)]
     simp only[CE,bK]at Fy;refine hH ?_;refine c4 (Lh J hs (o:=⟨nD,1,id,dir,s,[]⟩) ⟨by have:=VT U;simp only;omega,hW⟩ hl) aI ?_
     rintro v H' ⟨rfl,rfl⟩;simp only[go_sem];refine a7 ?_;exact jX J rfl rfl
  ·have hd:decide (f=0)=false:=b0 K;simp only[ar K];refine hH ?_;exact jX J rfl J.own.symm
 ·have hd:decide (e=0)=false:=b0 he;simp only[ar he];refine hH ?_;exact jX J rfl J.own.symm
end Go.Proofs.YtnmamncmpklliaaGreatDoor

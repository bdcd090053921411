/- What the functions of this seat answer (52 of 53). No condition. -/
import Derived.Test.YtnmamncmpklliaaGreatDoorWorkBW
set_option linter.unusedSimpArgs false
set_option linter.unusedVariables false
set_option maxRecDepth 100000
set_option maxHeartbeats 16000000
namespace Go.Proofs.YtnmamncmpklliaaGreatDoor
open Go.Proofs.Tryz
theorem aHi(f g o p:Bool)(e k:List eb)(H:ab):aM prog 75 [.agg [.sl f (e.map c9),.bool o],.agg [.sl g (k.map c9),.bool p]] H (.bool<|decide (e=k)&&decide (o=p)):=by
 refine aZ func75 ?_;have h1:=Xa f g e k;cases hd:decide (e=k)with
 |true=>
  rw[hd]at h1;repeat' first|(refine ae ?_;simp only[go_sem])|refine ao ?_|fail
  exact aV<|.refl _
 |false=>
  rw[hd]at h1;repeat' first|(refine ae ?_;simp only[go_sem])|refine ao ?_|fail
  exact aV<|.refl _
theorem aFF(aO bo:Bool)(l m:List Bw)(H:ab):aM prog 36 [.sl aO (l.map gL),.sl bo<|m.map gL] H (.bool<|decide (l=m)):=by
 refine po λZ _=>?_
 have hl:=oi Z;rw[cv]at hl;refine aZ func36 ?_;repeat' first|(refine ae ?_;simp only[go_sem])|refine bt ?_|(refine bB ?_ ?_<;>intro h<;>try exact bA h)|fail
 ·exact bD<|.of (by rw[bN (λe=>by subst e;simp at h)])
 ·have hlen:l.length=m.length:=by simp at h;omega
  refine cE (ι:=Nat) (λi=>[(0,.sl aO<|l.map gL),(1,.sl bo<|m.map gL),(5,.int .i64 i)]) (λ_=>H) (λi=>i<=l.length/\l.take i=m.take i) (λi=>l.length-i) 0 ⟨bW _,rfl⟩ ?_ rfl ?_
  ·simp[go_sem]
  ·rintro i ⟨hi,he⟩;by_cases U:i<l.length
   ·have ad:=di gL U;have aJ:=di gL<|show i<m.length by omega
    obtain⟨x,J⟩:∃x,x=l[i]:=⟨_,rfl⟩;obtain⟨y,K⟩:∃y,y=m[i]'(by omega):=⟨_,rfl⟩
    rw[<-J]at ad;rw[<-K]at aJ;have O:i<m.length:=iV
    have T:x≠y->decide (l=m)=false:=λaN=>bN λe=>aN<|by subst e;rw[J,K]
    have od:x=y->∃z:Nat,(z<=l.length/\l.take z=m.take z)/\l.length-z<l.length-i/\I.int .i64 (IntKind.i64.wrap<|(i:Int)+1)=I.int .i64 z:=λheq=>⟨i+1,⟨U,by rw[fj U,fj iV,he,<-J,<-K,heq]⟩,iV,by rw[bI];rfl⟩
    have V:=Wq false false x.nodes y.nodes;by_cases av:x.nodes=y.nodes
    ·rw[cD av]at V;by_cases al:x.n=y.n
     ·have d2:decide (x.n=y.n)=true:=cD al;repeat' first|(refine ae ?_;simp only[go_sem,ad,aJ,gL,U,O,d2])|refine ao ?_|fail
      exact od (by cases x;cases y;simp_all)
     ·have d2:decide (x.n=y.n)=false:=bN al;repeat' first|(refine ae ?_;simp only[go_sem,ad,aJ,gL,U,O,d2])|refine ao ?_|fail
      exact bD<|.of (by rw[T λe=>al (by rw[e])])
    ·rw[bN av]at V;repeat' first|(refine ae ?_;simp only[go_sem,ad,aJ,gL,U,O])|refine ao ?_|fail
     exact bD<|.of (by rw[T λe=>av (by rw[e])])
   ·have cF:i=l.length:=iV
    subst cF;repeat' first|(refine ae ?_;simp only[go_sem])|refine ao ?_|fail
    exact bD<|.of (by rw[cD (by rw[eG,hlen,eG]at he;exact he)])
theorem aDF(aO bo:Bool)(l m:List oH)(H:ab):aM prog 37 [.sl aO (l.map dn),.sl bo<|m.map dn] H (.bool<|decide (l=m)):=by
 refine po λbn _=>?_
 have hl:=oi bn;rw[cv]at hl;refine aZ func37 ?_;repeat' first|(refine ae ?_;simp only[go_sem])|refine bt ?_|(refine bB ?_ ?_<;>intro h<;>try exact bA h)|fail
 ·exact bD<|.of (by rw[bN (λe=>by subst e;simp at h)])
 ·have hlen:l.length=m.length:=by simp at h;omega
  refine cE (ι:=Nat) (λi=>[(0,.sl aO<|l.map dn),(1,.sl bo<|m.map dn),(5,.int .i64 i)]) (λ_=>H) (λi=>i<=l.length/\l.take i=m.take i) (λi=>l.length-i) 0 ⟨bW _,rfl⟩ ?_ rfl ?_
  ·simp[go_sem]
  ·rintro i ⟨hi,he⟩;by_cases U:i<l.length
   ·have ad:=di dn U;have aJ:=di dn<|show i<m.length by omega
    obtain⟨x,J⟩:∃x,x=l[i]:=⟨_,rfl⟩;obtain⟨y,O⟩:∃y,y=m[i]'(by omega):=⟨_,rfl⟩
    rw[<-J]at ad;rw[<-O]at aJ;have K:i<m.length:=iV
    have T:x≠y->decide (l=m)=false:=λaN=>bN λe=>aN<|by subst e;rw[J,O]
    have od:x=y->∃z:Nat,(z<=l.length/\l.take z=m.take z)/\l.length-z<l.length-i/\I.int .i64 (IntKind.i64.wrap<|(i:Int)+1)=I.int .i64 z:=λheq=>⟨i+1,⟨U,by rw[fj U,fj iV,he,<-J,<-O,heq]⟩,iV,by rw[bI];rfl⟩
    have Z:=aHi false false x.over y.over x.bV y.bV;by_cases av:x.bV=y.bV/\x.over=y.over
    ·rw[cD av.1,cD av.2]at Z;by_cases al:x.n=y.n
     ·have d2:decide (x.n=y.n)=true:=cD al;by_cases V:x.dir=y.dir
      ·have d3:decide (x.dir=y.dir)=true:=cD V;repeat' first|(refine ae ?_;simp only[go_sem,ad,aJ,dn,U,K,d2,d3,Bool.and_self])|refine ao ?_|fail
       exact od (by cases x;cases y;simp_all)
      ·have d3:decide (x.dir=y.dir)=false:=bN V;repeat' first|(refine ae ?_;simp only[go_sem,ad,aJ,dn,U,K,d2,d3,Bool.and_self])|refine ao ?_|fail
       exact bD<|.of (by rw[T λe=>V (by rw[e])])
     ·have d2:decide (x.n=y.n)=false:=bN al;repeat' first|(refine ae ?_;simp only[go_sem,ad,aJ,dn,U,K,d2,Bool.and_self])|refine ao ?_|fail
      exact bD<|.of (by rw[T λe=>al (by rw[e])])
    ·have ax:(decide (x.bV=y.bV)&&decide (x.over=y.over))=false:=by
      rw[wB];intro h;simp only[cV,gU]at h;exact av h
     rw[ax]at Z;repeat' first|(refine ae ?_;simp only[go_sem,ad,aJ,dn,U,K])|refine ao ?_|fail
     exact bD<|.of (by rw[T λe=>av (by rw[e];exact⟨rfl,rfl⟩)])
   ·have cF:i=l.length:=iV
    subst cF;repeat' first|(refine ae ?_;simp only[go_sem])|refine ao ?_|fail
    exact bD<|.of (by rw[cD (by rw[eG,hlen,eG]at he;exact he)])
theorem Oy(f1 f2 f3 f4 g1 g2 g3 g4:Bool)(m n:c0)(H:ab):aM prog 17 [ih f1 f2 f3 f4 m,ih g1 g2 g3 g4 n] H (.bool<|decide (m=n)):=by
 refine aZ func17 ?_;have h1:=aIq f1 f2 g1 g2 m.log n.log;have h2:=aFF f3 g3 m.cN n.cN;have h3:=aDF f4 g4 m.cd n.cd;simp only[om]at h1;have J:decide (m=n)=(decide (m.log=n.log)&&decide (m.cN=n.cN)&&decide (m.cd=n.cd)&&decide (m.seen=n.seen)&&decide (m.rep=n.rep)&&decide (m.next=n.next)):=by
  cases m;cases n;rw[pf];simp;constructor<;>(intro h;simp_all)
 rw[J];generalize decide (m.log=n.log)=U at *;generalize decide (m.cN=n.cN)=K at *;generalize decide (m.cd=n.cd)=O at *;refine bP (gP ih.eq_1 oo.eq_1) ?_;exact aV<|.refl _
end Go.Proofs.YtnmamncmpklliaaGreatDoor

/- What the functions of this seat answer (28 of 53). No condition. -/
import Derived.Test.YtnmamncmpklliaaGreatDoorWorkAX
set_option linter.unusedSimpArgs false
set_option linter.unusedVariables false
set_option maxRecDepth 100000
set_option maxHeartbeats 16000000
namespace Go.Proofs.YtnmamncmpklliaaGreatDoor
variable{d:ft}
open Go.Proofs.Tryz
def BN(d:ft)(a n:Int):ag×Int:=if a<0\/n<0\/d.size-a<n then([],121)else(jr d a.toNat n.toNat,0)
theorem aDC(k:Nat)(t:ag)(p:gA):(AS k t p).length=t.length:=by
 unfold AS
 (repeat' split)<;>simp only[xw]
theorem T5(cz:ag):∀(l:List gA) (i:Nat) (p:gA) (t:ag),sb cz i (l++[p]) t=AS (Bb cz<|i+l.length) (sb cz i l t) p
 |[],_,_,_=>rfl
 |q::l,i,p,t=>by
  rw[iN,sb,sb,T5 cz l (i+1) p,cg,tC,Nat.add_comm 1]
theorem SR(cz:ag):∀(l:List gA) (i:Nat) (t:ag),(sb cz i l t).length=t.length
 |[],_,_=>rfl
 |p::l,i,t=>by rw[sb,SR cz l,aDC]
theorem N7(h:eY d)(cz:ag):eY (pk d cz):=by
 refine⟨?_,by simp[pk]⟩
 have hs:=h.size;have hl:=SR cz d.loose 0 d.iU;unfold n0 pk;simp only[cV,gU,List.all_nil,and_true];omega
def SS:List cu:=[.free,.pure 0,.pure 0,.pure 0,.pure 0,.eff [false,true,true,false]]
attribute [go_sem] SS
theorem XQ(f:Bool)(hk:eY d)(a n:Int)(U: -1000000<=a/\a<=1000000)(af: -1000000<=n/\n<=1000000)(H:ab):aM prog 105 [fW f d,.int .i64 a,.int .i64 n] H (.aQ [.str (BN d a n).1,.int .i64 (BN d a n).2]):=by
 refine aZ func105 ?_;have hs:=hk.size;have K:=F3 f hk;have hw:IntKind.i64.wrap (d.size-a)=d.size-a:=bI;unfold BN;by_cases h:a<0\/n<0\/d.size-a<n
 ·have J:(decide (a<0)||decide (n<0)||decide (d.size-a<n))=true:=nX
  rw[aA h];unfold fW at *;refine hH ?_;all_goals first|exact aV (.refl _)|(exfalso;simp at *;omega)
 ·rw[aj h];obtain⟨x,rfl⟩:∃x:Nat,a=x:=⟨a.toNat,iV⟩
  obtain⟨y,rfl⟩:∃y:Nat,n=y:=⟨n.toNat,iV⟩
  have J:(decide ((x:Int)<0)||decide ((y:Int)<0)||decide (d.size-x<y))=false:=nX
  have hd:=W7 f hk x y iV
  unfold fW at *;refine hH ?_;all_goals first|exact aV (.refl _)|(exfalso;simp at *;omega)
theorem aGO(f:Bool)(hk:eY d)(cz:ag)(ad:cz.length<=1073741824)(H:ab):aM prog 73 [fW f d,.str cz] H (fW true<|pk d cz):=by
 refine aZ func73 ?_;obtain⟨k1,k2,k3,k4⟩:=hk.size;have Rg:=hk.LO;have au:=F3 f hk;unfold fW at au;obtain⟨z,aT⟩:∃z:Nat,d.size=z:=⟨d.size.toNat,iV⟩
 have HP:d.iU.length=z * 16:=iV
 repeat' first|(refine ae ?_;simp only[go_sem,fW,HP])|refine ao ?_|fail
 obtain⟨T,h0⟩:∃T:Nat->ag,∀q,T q=sb cz 0 (d.loose.take q) d.iU:=⟨_,λ_=>rfl⟩
 refine cE (ι:=Nat×ab) (λs=>[(1,.str cz),(2,.ref H.length 0 0),(4,.ref (H.length+1) 0 0),(5,.osl 1 (H.length+2) 1 0 (z * 16)<|z * 16),(20,.int .i64 d.loose.length),(21,.int .i64 s.1)])
  (λs=>H++(.cells 0 [.int .i64 d.size,.str d.iU,.sl f<|d.loose.map eO]::.cells 0 [.int .i64 0,.str [],.sl true []]::.cells 1 (ch<|T s.1)::s.2)) (λs=>s.1<=d.loose.length) (λs=>d.loose.length-s.1) (0,[]) (bW _) ?_ (by simp[h0,sb]) ?_
 ·simp[go_sem]
 rintro⟨q,M⟩ aJ;simp only at aJ ⊢;have Al:(T q).length=z * 16:=by rw[h0,SR];exact HP
 by_cases Z:q<d.loose.length
 ·have Mp:=di eO Z;have I:decide ((q:Int)<(d.loose.length:Int))=true:=cK;have m1:∀x:bE,(M++[x]).getD M.length .gone=x:=λx=>kk
  have m2:∀x y:bE,(M++[x]).set M.length y=M++[y]:=λx y=>kk
  have hw:=dA Z iV
  have K:T (q+1)=AS (Bb cz q) (T q) d.loose[q]:=by rw[h0,h0,fj Z,T5,eK];congr 2;omega
  obtain⟨jO,z2,z3⟩:=k4 _<|ga Z;generalize d.loose[q]=p at *;obtain⟨P,jC⟩:∃P:Nat,p.at_=P:=⟨p.at_.toNat,iV⟩
  have gx:IntKind.i64.wrap (p.at_ * 16)=((P * 16:Nat):Int):=by rw[bI];omega
  have hO:P * 16+16<=z * 16:=iV
  unfold AS at K;rw[jC,e5]at K;generalize P * 16=O at *;generalize T q=U at *;have Il:∀(V:ag) (o:Nat) (s:ag),V.length=z * 16->o+s.length<=z * 16->dq (ch V) o (ch s)=ch (iD V o s):=λV o s h1 h2=>by
   rw[TO];unfold iD;rw[iw (l:=s) iV]
  have lB:List.take 8 (p.data.drop 8)=p.data.drop 8:=iw nX
  have rb:=Il U (O * 1+8) (p.data.drop 8) Al nX
  have qp:=Il U (O * 1) (p.data.take 8) Al nX
  have E8:=Il (iD U (O * 1+8) (p.data.drop 8)) (O * 1) (p.data.take 8) (by rw[xw];exact Al) nX
  have aA1:List.take 16 (List.take 8 p.data)=List.take 8 p.data:=by rw[Dr];rfl
  have Fb:(List.take 8 p.data).length=8:=nX
  have r4:=xw U (O * 1+8)<|p.data.drop 8;by_cases hb:q<cz.length
  ·have iz:decide ((q:Int)<(cz.length:Int))=true:=cK;obtain⟨x,J⟩:∃x,cz[q]=x:=⟨_,rfl⟩;have aBc:cz[q]?=some x:=by rw[da hb,J]
   have E5:Bb cz q=x.toNat % 3:=by unfold Bb;rw[et,aBc];rfl
   rw[E5]at K;have az:((x.toNat:Int)).tmod 3=((x.toNat % 3:Nat):Int):=by rw[Bf iV];omega
   have RY:cz.getD q 0=x:=by rw[et,aBc];rfl
   have RZ:IntKind.i64.wrap (x.toNat:Int)=(x.toNat:Int):=wrap_i64 iV (by have:=x.toNat_lt;omega)
   have aXJ:x.toNat % 3<3:=Nat.mod_lt _ iV
   generalize x.toNat % 3=c at *;by_cases jY:c=1
   ·subst jY;rw[aA rfl]at K;repeat' first|((first|refine mx [14] SS ?_|refine ae ?_);simp only[go_sem,Mp,I,eO,m1,m2,iz,gx,RY,RZ,az,lB,aA1,rb,E8,r4,Fb])|refine ao ?_|fail
    exact⟨(q+1,M++[.cells 0 [.int .i64 p.at_,.str p.data]]),Z,by simp only;omega,bU _ hw,by rw[K];simp only[me]⟩
   by_cases rZ:c=2
   ·subst rZ;rw[aj iV,aA rfl]at K
    repeat' first|((first|refine mx [14] SS ?_|refine ae ?_);simp only[go_sem,Mp,I,eO,m1,m2,iz,gx,RY,RZ,az,aA1,qp,Fb])|refine ao ?_|fail
    exact⟨(q+1,M++[.cells 0 [.int .i64 p.at_,.str p.data]]),Z,by simp only;omega,bU _ hw,by rw[K];simp only[me]⟩
   ·obtain rfl:c=0:=iV
    rw[aj iV,aj iV]at K
    repeat' first|(refine ae ?_;simp only[go_sem,Mp,I,eO,m1,m2,iz,gx,RY,RZ,az])|refine ao ?_|fail
    exact⟨(q+1,M++[.cells 0 [.int .i64 p.at_,.str p.data]]),Z,by simp only;omega,bU _ hw,by rw[K]⟩
  ·have iz:decide ((q:Int)<(cz.length:Int))=false:=cQ;have E5:Bb cz q=0:=by unfold Bb;rw[et,tA iV];rfl
   rw[E5,aj iV,aj iV]at K
   repeat' first|(refine ae ?_;simp only[go_sem,Mp,I,eO,m1,m2,iz,gx])|refine ao ?_|fail
   exact⟨(q+1,M++[.cells 0 [.int .i64 p.at_,.str p.data]]),Z,by simp only;omega,bU _ hw,by rw[K]⟩
 ·have eV:q=d.loose.length:=iV
  subst eV;have I:decide ((d.loose.length:Int)<(d.loose.length:Int))=false:=cQ;have aN8:T d.loose.length=sb cz 0 d.loose d.iU:=by rw[h0,eG]
  have Fa:List.take (z * 16 * 1) (ch<|T d.loose.length)=ch (T d.loose.length):=iw<|by rw[q0];omega
  have Rq:(z * 16 * 1<=(T d.loose.length).length)=True:=b5 iV
  repeat' first|(refine ae ?_;simp only[go_sem,I,Fa,Rq])|refine ao ?_|fail
  exact aV<|.of (by rw[aN8];simp[fW,pk])
end Go.Proofs.YtnmamncmpklliaaGreatDoor

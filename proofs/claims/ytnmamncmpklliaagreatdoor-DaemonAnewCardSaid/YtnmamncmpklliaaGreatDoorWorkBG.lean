/- What the functions of this seat answer (33 of 53). No condition. -/
import Derived.Test.YtnmamncmpklliaaGreatDoorWorkAZ
set_option linter.unusedSimpArgs false
set_option linter.unusedVariables false
set_option maxRecDepth 100000
set_option maxHeartbeats 16000000
namespace Go.Proofs.YtnmamncmpklliaaGreatDoor
variable{d:Int}{l:List aE}{p:ag}
open Go.Proofs.Tryz
theorem aK1(n:Nat)(aw:0<n)(af:n<=1048576)(H:ab):dp prog 366 [.sl true [],.int .i64 n] H (λv H'=>v=.osl 1 H.length 1 0 0 n/\∃cs,cs.length=n/\H'=H++[.cells 1 cs]):=by
 refine p3 func366 ?_;have h1:decide ((n:Int)<0)=false:=cQ;have h2:decide ((0:Int)<(n:Int))=true:=cK;have h3:IntKind.i64.wrap ((n:Int)-IntKind.i64.wrap 0)=n:=by rw[show IntKind.i64.wrap 0=0 from rfl,bI];omega
 have h4:(n * 8<=140737488355328)=True:=b5 iV
 have J:((0:Int)<(n:Int))=True:=b5 iV
 have U:IntKind.i64.wrap ((n:Int)-IntKind.i64.wrap (0-0))=n:=h3;repeat' first|(refine ae ?_;simp only[go_sem,h1,h2,h3,h4,J,U,e5,eg,Int.natCast_zero,sH,Int.toNat_zero,List.take_nil])|refine ao ?_|fail
 exact⟨_,by simp[I.cells],rfl⟩
theorem Xk{H:ab}(v n:Nat)(l:List Int){B:bE}(J:B=.cells v (l.map bq)):cL H.length (H++[B]) (.osl 1 H.length v 0 l.length n) (.sl false<|l.map bq):=by
 subst J;refine q3 (v:=v) (cs:=l.map bq) (rest:=[]) (bd _) nb (by rw[xx,cA]) (by rw[cv]) (AP _) (λe he=>by obtain⟨x,_,rfl⟩:=bJ.1 he;exact .int _ _)
theorem XR(l:List Int):(List.flatMap I.cells (l.map bq)).all I.one=true:=by
 rw[xx];induction l with
 |nil=>rfl
 |cons x l J=>rw[dz,List.all_cons,J];rfl
theorem I5{A B X C:List I}(h:X.length=C.length):dq (A++(C++B)) A.length X=A++(X++B):=by
 rw[rS rfl,h,xZ]
theorem NG(f f1 f2:Bool)(J U:List Int)(h1:0<J.length)(h2:J.length<=100000)(h3:U.length<=100000)(H:ab):
  aM prog 365 [.sl f [.sl f1 (J.map bq),.sl f2<|U.map bq]] H (.sl false<|(J++U).map bq):=by
 refine aZ func365 ?_;obtain⟨n,af⟩:∃n,J.length+U.length=n:=⟨_,rfl⟩;have Z:IntKind.i64.wrap (0+(J.length:Int))=(J.length:Int):=by rw[bI];omega
 have dI:IntKind.i64.wrap ((J.length:Int)+(U.length:Int))=(n:Int):=by rw[bI];omega
 have uj:decide ((J.length:Int)<0)=false:=cQ;have iz:decide ((n:Int)<0)=false:=cQ;have O:IntKind.i64.wrap (0+1)=1:=rfl;have K:IntKind.i64.wrap (1+1)=2:=rfl;repeat' first|(refine ae ?_;simp only[go_sem])|refine ao ?_|fail
 refine sW 3 ?_;unfold qc;repeat' first|(refine ae ?_;simp only[go_sem,Z,uj,O,dI,iz,K,Int.reduceLT])|refine ao ?_|fail
 refine dU (aK1 n iV iV H) aK λv H' aG=>?_
 obtain⟨rfl,cs,au,rfl⟩:=aG;obtain⟨c1,c2,rfl,jY,T⟩:∃c1 c2,cs=c1++c2/\c1.length=J.length/\c2.length=U.length:=⟨cs.take J.length,cs.drop J.length,kk,nX,nX⟩
 have V:((0:Nat)=n)=False:=x5 iV
 simp only[go_sem];repeat' first|(refine ae ?_;simp only[go_sem,V])|refine ao ?_|fail
 refine sW 3 ?_;unfold qc;repeat' first|(refine ae ?_;simp only[go_sem,V,O,K,Int.reduceLT])|refine ao ?_|fail
 have g1:dq (c1++c2) 0 (List.flatMap I.cells<|J.map bq)=J.map bq++c2:=by
  have:=I5 (A:=[]) (B:=c2) (X:=J.map bq) (C:=c1)<|by rw[cv,jY]
  rw[xx];simpa using this
 rw[g1];refine⟨⟨iV,iV,AP _,XR _⟩,?_⟩
 by_cases z:U=[]
 ·subst z;have av:(J.length=n)=True:=b5<|by simpa using af
  have al:c2=[]:=iO T;subst al;have aY:J.length * 8<=140737488355328:=iV
  repeat' first|(refine ae ?_;simp only[go_sem,av,O,K,Int.reduceLT,cA,hj,J5,eg,rJ,aY,cv,List.all_nil,me])|refine ao ?_|fail
  refine⟨_,_,rfl,Xk 2 _ J rfl,?_⟩;first|rfl|rw[cA]
 ·have Bl:0<U.length:=pe.2 z;have av:(J.length=n)=False:=x5 iV
  repeat' first|(refine ae ?_;simp only[go_sem,av,O,K,Int.reduceLT])|refine ao ?_|fail
  have g2:dq (J.map bq++c2) J.length (List.flatMap I.cells<|U.map bq)=J.map bq++U.map bq:=by
   have:=I5 (A:=J.map bq) (B:=[]) (X:=U.map bq) (C:=c2)<|by rw[cv,T]
   rw[xx];simpa using this
  have g3:dq (J.map bq++c2) (J.length * 1) (List.flatMap I.cells<|U.map bq)=J.map bq++U.map bq:=by rw[me,g2]
  try rw[g2]
  try rw[g3]
  refine⟨⟨iV,iV,AP _,XR _⟩,?_⟩
  repeat' first|(refine ae ?_;simp only[go_sem,K,Int.reduceLT])|refine ao ?_|fail
  rw[<-nQ];refine⟨_,_,rfl,?_,rfl⟩;have:=Xk (H:=H) 1 n (J++U) rfl;rwa[bF]at this
theorem aGV(H:ab){i v lc:Nat}{a:Int}{cs:List I}(K:ay H i=.cells v (bq a::cs))(T:0<lc):aM prog 183 [.osl 1 i v 0 1 lc,.int .i64 d] H (.bool<|decide (a=d)):=by
 have O:IntKind.i64.wrap (0+1)=1:=rfl;have U:decide ((1:Int)<((1:Nat):Int))=false:=rfl;by_cases h:d=a
 ·subst h;have J:aM prog 214 [.osl 1 i v 0 1 lc,.int .i64 d] H (.int .i64 0):=by
   refine aZ func214 ?_;repeat' first|(refine ae ?_;simp only[go_sem])|refine ao ?_|fail
   refine sW 2 ?_;unfold qc;repeat' first|(refine ae ?_;simp only[go_sem,K,bq,O,U,qQ])|refine ao ?_|fail
   exact BG (.int _ _)<|.refl _
  refine aZ func183 ?_;have U:decide ((0:Int)<=0)=true:=rfl;rw[cD rfl];repeat' first|((first|refine jg J ?_|refine ae ?_);simp only[go_sem,U])|refine ao ?_|fail
  exact BG (.bool _)<|.refl _
 ·have av:decide (d=a)=false:=bN h;have J:aM prog 214 [.osl 1 i v 0 1 lc,.int .i64 d] H (.int .i64<|-1):=by
   refine aZ func214 ?_;repeat' first|(refine ae ?_;simp only[go_sem])|refine ao ?_|fail
   refine sW 2 ?_;unfold qc;repeat' first|(refine ae ?_;simp only[go_sem,K,av,bq,O,U])|refine ao ?_|fail
   exact BG (.int _ _)<|.refl _
  refine aZ func183 ?_;have U:decide ((0:Int)<= -1)=false:=rfl;rw[bN (ka h)];repeat' first|((first|refine jg J ?_|refine ae ?_);simp only[go_sem,U])|refine ao ?_|fail
  exact BG (.bool _)<|.refl _
def rq(i:Nat):List Int->I
 |[]=>.sl true []
 |d::bk=>.osl 1 i (bk.length+1) 0 (bk.length+1)<|bk.length+1
def sk(H:ab):List Int->ab
 |[]=>H
 |d::bk=>H++[.cells (bk.length+1) ((d::bk).map bq)]
theorem aDQ{bk:List Int}{ps:List ag}{f:List Int->ag->List Int}{k:Nat}(h:k<ps.length):(ps.drop k).foldl f bk=(ps.drop (k+1)).foldl f (f bk ps[k]):=by
 rw[ij h];rfl
theorem aDR(h:gB p=none):gp l p=none:=by rw[gp,h]
theorem aFO(h:gB p=some []):gp l p=none:=by rw[gp,h]
theorem aDS{x:ag}{xs:List ag}{e:Int}(h:gB p=some (x::xs))(J:fp l (x::xs).dropLast=(d,e)):gp l p=if e=0/\dm d=true then some d else none:=by rw[gp,h];simp only[J]
theorem Xl(l:List Int)(u:Int):(l.any λx=>decide<|x=u)=l.contains u:=by
 rw[pf];simp
theorem YE(b:Bool)(l:List aE)(u w:Int)(hl:l.length<=1073741824)(H:ab)(i:Nat)(J:ay H i=.cells 0 [.sl b (l.map ba)]):aM prog 364 [.int .i64 u,.int .i64 w,.ref i 0 0] H (.bool<|oR l u w):=by
 refine aZ func364 ?_;have U:=OY b l w hl;repeat' first|((first|refine cx (Jg _ _ _) ?_|refine ae ?_);simp only[go_sem,J])|refine ao ?_|fail
 refine bD<|.of ?_;rw[oR,Xl]
theorem aIR(b:Bool)(l:List aE)(c:b8)(ad:c.path.length<=1048576)(ah:c.to.length<=1048576)(hl:l.length<=1073741824)(H:ab):
  aM prog 363 [c4 c,.sl b<|l.map ba] H (.sl false<|(iq l c).map bq):=by
 refine aZ func363 ?_;obtain⟨ps,qn⟩:∃ps,nu c=ps:=⟨_,rfl⟩;have vO:=aJq c;rw[qn]at vO;have ek:ps.length<=2:=by rw[<-qn,nu];split<;>(try split)<;>simp
 have uo:∀p∈ps,p.length<=1048576:=by
  rw[<-qn,nu];intro p aJ;split at aJ
  ·rcases cU.1 aJ with rfl|aJ
   ·exact ad
   ·rw[dF.1 aJ];exact ah
  ·split at aJ
   ·rw[dF.1 aJ];exact ad
   ·cases aJ
 rw[show iq l c=1::n3 l (ps.foldl (λbk p=>jJ bk<|gp l p) [])from by rw[iq,ze,qn]]
 clear qn;obtain⟨sh,pp,to,Hw,aBC⟩:=c;simp only[c4]at vO;have yI:=JN b;repeat' first|(refine ae ?_;simp only[go_sem,c4])|refine ao ?_|fail
 refine cE (ι:=Nat×List Int) (λq=>[(3,.ref (H.length+1) 0 0),(15,.sl true<|ps.map I.str),(16,.int .i64 ps.length),(17,.int .i64 q.1),(5,rq (H.length+2) q.2)]) (λq=>sk (H++[.cells 0 [.int .i64 sh,.str pp,.str to,.str Hw,.int .i64 aBC],.cells 0 [.sl b (l.map ba)]]) q.2)
  (λq=>q.1<=ps.length/\q.2.length<=q.1/\ps.foldl (λbk p=>jJ bk<|gp l p) []=(ps.drop q.1).foldl (λbk p=>jJ bk<|gp l p) q.2) (λq=>ps.length-q.1) (0,[]) ⟨bW _,bW _,rfl⟩ ?_ rfl ?_
 ·simp[go_sem,rq]
 ·rintro⟨k,bk⟩ ⟨hk,K,he⟩;simp only at hk K he ⊢;by_cases V:k<ps.length
  ·have hb:=di I.str V;have U:decide ((k:Int)<(ps.length:Int))=true:=cK;have hw:IntKind.i64.wrap ((k:Int)+1)=((k+1:Nat):Int):=by rw[bI];omega
   rw[aDQ V]at he;have qm:=Gj ps[k] (uo _ (ga _));cases eJ:gB ps[k]with
   |none=>
    rw[aDR eJ]at he;simp only[ly,eJ]at qm;rcases bk with _|⟨a,_|⟨a2,bk⟩⟩
    ·simp only[rq,sk];repeat' first|(refine ae ?_;simp only[go_sem,hb,U])|refine ao ?_|fail
     exact⟨(k+1,[]),⟨V,by simp only[eg]at K ⊢;omega,he⟩,by simp only;omega,⟨bU _ hw,rfl⟩,rfl⟩
    ·simp only[rq,sk];repeat' first|(refine ae ?_;simp only[go_sem,hb,U])|refine ao ?_|fail
     exact⟨(k+1,[a]),⟨V,by simp only[cg,eg]at K ⊢;omega,he⟩,by simp only;omega,⟨bU _ hw,rfl⟩,rfl⟩
    ·simp only[cg]at K;omega
   |some nl=>
    have b7:=IP eJ;cases nl with
    |nil=>
     rw[aFO eJ]at he;simp only[ly,eJ]at qm;rcases bk with _|⟨a,_|⟨a2,bk⟩⟩
     ·simp only[rq,sk];repeat' first|(refine ae ?_;simp only[go_sem,hb,U])|refine ao ?_|fail
      exact⟨(k+1,[]),⟨V,by simp only[eg]at K ⊢;omega,he⟩,by simp only;omega,⟨bU _ hw,rfl⟩,rfl⟩
     ·simp only[rq,sk];repeat' first|(refine ae ?_;simp only[go_sem,hb,U])|refine ao ?_|fail
      exact⟨(k+1,[a]),⟨V,by simp only[cg,eg]at K ⊢;omega,he⟩,by simp only;omega,⟨bU _ hw,rfl⟩,rfl⟩
     ·simp only[cg]at K;omega
    |cons x xs=>
     simp only[ly,eJ]at qm;rw[cg]at b7;have dI:IntKind.i64.wrap (((xs.length+1:Nat):Int)-1)=(xs.length:Int):=by rw[bI];omega
     have ob:decide (((xs.length+1:Nat):Int)=0)=false:=cQ;have aa:((0:Int)<=(xs.length:Int)/\(xs.length:Int)<=((xs.length+1:Nat):Int))=True:=b5 iV
     have ax:=λcB=>JN b cB l (x::xs).dropLast hl
     obtain⟨⟨d,e⟩,q7⟩:∃r,fp l (x::xs).dropLast=r:=⟨_,rfl⟩;rw[aDS eJ q7]at he;rw[q7,uL,Gb,rI,dz,cg,J6]at ax;simp only at ax;have vz:=uV d;by_cases lH:e=0
     ·subst lH;cases ik:dm d with
      |false=>
       rw[ik]at he vz;rw[aj (by rintro⟨_,h⟩;cases h)]at he
       rcases bk with _|⟨a,_|⟨a2,bk⟩⟩
       ·simp only[rq,sk];repeat' first|((first|refine cx (ax _) ?_|refine ae ?_);simp only[go_sem,hb,U,dI,ob,aa,e5,dz,qQ])|refine ao ?_|fail
        exact⟨(k+1,[]),⟨V,by simp only[eg]at K ⊢;omega,he⟩,by simp only;omega,⟨bU _ hw,rfl⟩,rfl⟩
       ·simp only[rq,sk];repeat' first|((first|refine cx (ax _) ?_|refine ae ?_);simp only[go_sem,hb,U,dI,ob,aa,e5,dz,qQ])|refine ao ?_|fail
        exact⟨(k+1,[a]),⟨V,by simp only[cg,eg]at K ⊢;omega,he⟩,by simp only;omega,⟨bU _ hw,rfl⟩,rfl⟩
       ·simp only[cg]at K;omega
      |true=>
       rw[ik]at he vz;rw[aA ⟨rfl,rfl⟩]at he;rcases bk with _|⟨a,_|⟨a2,bk⟩⟩
       ·simp only[rq,sk];have au:=Jg true [] d;simp only[hj,List.any_nil]at au;repeat' first|((first|refine cx (ax _) ?_|refine ae ?_);simp only[go_sem,hb,U,dI,ob,aa,e5,dz,qQ])|refine ao ?_|fail
        refine⟨⟨by simp only[true_or],by rintro e rfl;rfl⟩,?_⟩
        repeat' first|(refine ae ?_;simp only[go_sem])|refine ao ?_|fail
        exact⟨(k+1,[d]),⟨V,by simp only[cg,eg]at K ⊢;omega,he⟩,by simp only;omega,⟨bU _ hw,rfl⟩,rfl⟩
       ·simp only[rq,sk];have au:=aGV (H++[.cells 0 [.int .i64 sh,.str pp,.str to,.str Hw,.int .i64 aBC],.cells 0 [.sl b (l.map ba)],.cells 1 [bq a]]) (i:=H.length+2) (v:=1) (lc:=1) (a:=a) (d:=d) (cs:=[]) nb iV
        by_cases hq:a=d
        ·rw[cD hq]at au;rw[show jJ [a] (some d)=[a]from by rw[hq];simp[jJ]]at he
         repeat' first|((first|refine cx (ax _) ?_|refine jg au ?_|refine ae ?_);simp only[go_sem,hb,U,dI,ob,aa,e5,dz,qQ])|refine ao ?_|fail
         exact⟨(k+1,[a]),⟨V,by simp only[cg,eg]at K ⊢;omega,he⟩,by simp only;omega,⟨bU _ hw,rfl⟩,rfl⟩
        ·rw[bN hq]at au;rw[show jJ [a] (some d)=[a,d]from by simp[jJ,ka hq]]at he
         repeat' first|((first|refine cx (ax _) ?_|refine jg au ?_|refine ae ?_);simp only[go_sem,hb,U,dI,ob,aa,e5,dz,qQ])|refine ao ?_|fail
         refine⟨by rintro e rfl;rfl,?_⟩
         repeat' first|(refine ae ?_;simp only[go_sem])|refine ao ?_|fail
         exact⟨(k+1,[a,d]),⟨V,by simp only[cg,eg]at K ⊢;omega,he⟩,by simp only;omega,⟨bU _ hw,rfl⟩,rfl⟩
       ·simp only[cg]at K;omega
     ·rw[aj (λh=>lH h.1)]at he
      have EP:decide (e=0)=false:=bN lH;rcases bk with _|⟨a,_|⟨a2,bk⟩⟩
      ·simp only[rq,sk];repeat' first|((first|refine cx (ax _) ?_|refine ae ?_);simp only[go_sem,hb,U,dI,ob,aa,e5,dz,EP])|refine ao ?_|fail
       exact⟨(k+1,[]),⟨V,by simp only[eg]at K ⊢;omega,he⟩,by simp only;omega,⟨bU _ hw,rfl⟩,rfl⟩
      ·simp only[rq,sk];repeat' first|((first|refine cx (ax _) ?_|refine ae ?_);simp only[go_sem,hb,U,dI,ob,aa,e5,dz,EP])|refine ao ?_|fail
       exact⟨(k+1,[a]),⟨V,by simp only[cg,eg]at K ⊢;omega,he⟩,by simp only;omega,⟨bU _ hw,rfl⟩,rfl⟩
      ·simp only[cg]at K;omega
  ·have kn:k=ps.length:=iV
   subst kn;rw[oy]at he;simp only[Bj]at he;have U:decide ((ps.length:Int)<(ps.length:Int))=false:=kk
   rw[he];rcases bk with _|⟨a,_|⟨a2,_|⟨a3,bk⟩⟩⟩
   ·simp only[rq,sk];have Z:=λf f1=>NG f f1 true [1] [] kk kk kk
    simp only[dz,hj,cA,bq]at Z;repeat' first|((first|refine cx (Z _ _) ?_|refine ae ?_);simp only[go_sem,U])|refine ao ?_|fail
    exact aV<|.of rfl
   ·simp only[rq,sk];have Z:=λf f1=>NG f f1 false [1] [a] kk kk kk
    simp only[dz,hj,iN,ju,bq]at Z;refine CN [5] [bq a] (v:=1) (lc:=1) (i:=H.length+2) (s:=1) (cs:=[bq a]) (by intro t ah;simp only[dF]at ah;subst ah;rfl) nb l9 rfl (by simp[bq,I.cells]) ?_
    repeat' first|((first|refine cx (Z _ _) ?_|refine ae ?_);simp only[go_sem,U,bq])|refine ao ?_|fail
    exact aV<|.of rfl
   ·simp only[rq,sk];have O:=λH' an=>YE b l a a2 hl H' (H.length+1) an
    have z:=λH' an=>YE b l a2 a hl H' (H.length+1) an
    by_cases mv:(!oR l a a2&&(oR l a2 a||decide (a2<a)))=true
    ·rw[show n3 l [a,a2]=[a2,a]from by rw[n3,aA mv]]
     have Z:=λf f1=>NG f f1 false [1] [a2,a] kk kk kk
     simp only[dz,hj,iN,ju,bq]at Z;repeat' first|(refine ae ?_;simp only[go_sem,U])|refine bt ?_|fail
     refine uv rfl (λh=>by cases h) λ_=>?_
     repeat' first|(refine ae ?_;simp only[go_sem])|refine bt ?_|fail
     refine uv rfl (λ_=>?_) λh=>absurd h l9
     cases J:oR l a a2 with
     |true=>rw[J]at mv;cases mv
     |false=>
      rw[J]at O;cases aH:oR l a2 a with
      |true=>
       rw[aH]at z;repeat' first|((first|refine oK (O _<|by simp only[go_sem,bq]) aK ?_|refine oL (λ_=>O _<|by simp only[go_sem,bq]) aK ?_|refine oM (λ_=>O _<|by simp only[go_sem,bq]) aK ?_|refine oK (z _<|by simp only[go_sem,bq]) aK ?_|refine oL (λ_=>z _<|by simp only[go_sem,bq]) aK ?_|refine oM (λ_=>z _<|by simp only[go_sem,bq]) aK ?_|refine ae ?_);simp only[go_sem,bq])|refine bt ?_|fail
       refine uv rfl (λ_=>?_) λh=>by cases h
       refine ud rfl ?_;simp only[go_sem];refine⟨l9,l9,?_⟩
       refine CN [5] [bq a2,bq a] (v:=2) (lc:=2) (i:=H.length+2) (s:=1) (cs:=[bq a2,bq a]) (by intro t ah;simp only[dF]at ah;subst ah;rfl) (by simp only[go_sem,bq]) l9 rfl (by simp[bq,I.cells]) ?_
       simp only[bq];repeat' first|((first|refine cx (Z _ _) ?_|refine ae ?_);simp only[go_sem])|refine ao ?_|fail
       exact aV<|.of rfl
      |false=>
       rw[aH,J]at mv;rw[aH]at z;have T:decide (a2<a)=true:=by simpa using mv
       repeat' first|((first|refine oK (O _<|by simp only[go_sem,bq,T]) aK ?_|refine oL (λ_=>O _<|by simp only[go_sem,bq,T]) aK ?_|refine oM (λ_=>O _<|by simp only[go_sem,bq,T]) aK ?_|refine oK (z _<|by simp only[go_sem,bq,T]) aK ?_|refine oL (λ_=>z _<|by simp only[go_sem,bq,T]) aK ?_|refine oM (λ_=>z _<|by simp only[go_sem,bq,T]) aK ?_|refine ae ?_);simp only[go_sem,bq,T])|refine bt ?_|fail
       refine uv rfl (λ_=>?_) λh=>by cases h
       refine ud rfl ?_;simp only[go_sem];refine⟨l9,l9,?_⟩
       refine CN [5] [bq a2,bq a] (v:=2) (lc:=2) (i:=H.length+2) (s:=1) (cs:=[bq a2,bq a]) (by intro t ah;simp only[dF]at ah;subst ah;rfl) (by simp only[go_sem,bq]) l9 rfl (by simp[bq,I.cells]) ?_
       simp only[bq];repeat' first|((first|refine cx (Z _ _) ?_|refine ae ?_);simp only[go_sem])|refine ao ?_|fail
       exact aV<|.of rfl
    ·rw[show n3 l [a,a2]=[a,a2]from by rw[n3,aj mv]]
     have Z:=λf f1=>NG f f1 false [1] [a,a2] kk kk kk
     simp only[dz,hj,iN,ju,bq]at Z;refine CN [5] [bq a,bq a2] (v:=2) (lc:=2) (i:=H.length+2) (s:=1) (cs:=[bq a,bq a2]) (by intro t ah;simp only[dF]at ah;subst ah;rfl) nb l9 rfl (by simp[bq,I.cells]) ?_
     cases J:oR l a a2 with
     |true=>
      rw[J]at O;repeat' first|((first|refine cx (Z _ _) ?_|refine oK (O _<|by simp only[go_sem,U,bq]) aK ?_|refine oL (λ_=>O _<|by simp only[go_sem,U,bq]) aK ?_|refine oM (λ_=>O _<|by simp only[go_sem,U,bq]) aK ?_|refine ae ?_);simp only[go_sem,U,bq])|refine ao ?_|fail
      exact aV<|.of rfl
     |false=>
      rw[J]at O mv;cases aH:oR l a2 a with
      |true=>rw[aH]at mv;exact absurd rfl mv
      |false=>
       rw[aH]at z mv;have T:decide (a2<a)=false:=by simpa using mv
       repeat' first|((first|refine cx (Z _ _) ?_|refine oK (O _<|by simp only[go_sem,U,bq,T]) aK ?_|refine oL (λ_=>O _<|by simp only[go_sem,U,bq,T]) aK ?_|refine oM (λ_=>O _<|by simp only[go_sem,U,bq,T]) aK ?_|refine oK (z _<|by simp only[go_sem,U,bq,T]) aK ?_|refine oL (λ_=>z _<|by simp only[go_sem,U,bq,T]) aK ?_|refine oM (λ_=>z _<|by simp only[go_sem,U,bq,T]) aK ?_|refine ae ?_);simp only[go_sem,U,bq,T])|refine ao ?_|fail
       exact aV<|.of rfl
   ·simp only[cg]at K;omega
end Go.Proofs.YtnmamncmpklliaaGreatDoor

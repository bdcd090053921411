/- What the functions of this seat answer (47 of 53). No condition. -/
import Derived.Test.YtnmamncmpklliaaGreatDoorWorkBP
import Derived.Test.YtnmamncmpklliaaGreatDoorWorkBT
set_option linter.unusedSimpArgs false
set_option linter.unusedVariables false
set_option linter.unusedSectionVars false
set_option maxRecDepth 100000
set_option maxHeartbeats 16000000
namespace Go.Proofs.YtnmamncmpklliaaGreatDoor
variable{i:Nat}{G:ab}{x':bK}{t:bz}{cs:List I}
open Go.Proofs.Tryz
theorem DG.app{p gb aO:Nat}{k:Int}{A B:List mK}(h:DG i p gb aO k A B G)(L:ab):DG i p gb aO k A B (G++L):=by
 obtain⟨w,hw⟩:=h.hi;exact⟨⟨w,b3 hw trivial L⟩,b3 h.ad trivial L,b3 h.aw trivial L,b3 h.h1 trivial L⟩
structure aCQ (H:ab) (f:Bool) (g:nU) (K:Int) (q:Nat) (M:ab):Prop where
 aJ:q<=g.waits.length
 hs:DG H.length (H.length+2) (H.length+3) (H.length+4) K ((g.waits.take q).filter λw=> !decide (w.upto<=K)) ((g.waits.take q).filter λw=>decide<|w.upto<=K) M
 hi:ay M H.length=.cells 0 [.int .i64 K,.sl f<|g.waits.map dy]
 ah:ay M (H.length+1)=.cells 0 [.int .i64 0,.sl true []]
 pre:∀j,j<H.length->ay M j=ay H j
 len:H.length+5<=M.length
theorem aIM(f:Bool)(g:nU)(k:Int)(hl:g.waits.length<=1000000)(H:ab):aM prog 169 [kK f g,.int .i64 k] H (.aQ [kK false (zV g k).1,.sl false<|(zV g k).2.map bq]):=by
 refine aZ func169 ?_;refine bP kK.eq_1 ?_;obtain⟨K,bP⟩:∃K,K=max g.kept k:=⟨_,rfl⟩;unfold zV;rw[<-bP];refine AX (v:=0) (cs:=[.sl true [],.sl true []]) (H.length+2) 0 2 nb rfl ?_
 simp only[go_sem];refine AX (v:=0) (cs:=[.osl 2 (H.length+3) 1 0 0 0,.sl true []]) (H.length+2) 1 2 nb rfl ?_
 simp only[go_sem];refine cE (ι:=Nat×ab) (λs=>[(2,.ref H.length 0 0),(4,.ref (H.length+1) 0 0),(6,.ref (H.length+2) 0 0),(7,.func (.func 201) [] [.ref H.length 0 0,.ref (H.length+2) 0 0]),(20,.sl f<|g.waits.map dy),(21,.int .i64 g.waits.length),(22,.int .i64 s.1)])
  (λs=>s.2) (λs=>aCQ H f g K s.1 s.2) (λs=>g.waits.length-s.1) (0,H++[.cells 0 [.int .i64 K,.sl f<|g.waits.map dy],.cells 0 [.int .i64 0,.sl true []],.cells 0 [.osl 2 (H.length+3) 1 0 0 0,.osl 2 (H.length+4) 1 0 0 0],.cells 1 [],.cells 1 []]) ?_ ?_ ?_ ?_
 ·refine⟨bW _,⟨⟨_,by simp only[go_sem];rfl⟩,by simp only[go_sem];rfl,by simp only[go_sem];rfl,by simp only[go_sem];rfl⟩,nb,nb,FH (M:=H) (λ_ _=>rfl) (bd _) _,kk⟩
 ·simp[go_sem]
 ·rfl
 rintro⟨q,M⟩ hd;simp only at hd ⊢;obtain⟨cP,U,T,V,z,Bc⟩:=hd;by_cases ak:q<g.waits.length
 ·have O:decide ((q:Int)<(g.waits.length:Int))=true:=cK;have ad:=di dy ak;have hw:=dA ak iV
  repeat' first|(refine ae ?_;simp only[go_sem,O,ad,dy])|refine ao ?_|fail
  obtain⟨X,J⟩:∃X,M++[bE.cells 0 [.int .i64 g.waits[q].aU,.int .i64 g.waits[q].upto]]=X:=⟨_,rfl⟩;have U:=U.app [bE.cells 0 [.int .i64 g.waits[q].aU,.int .i64 g.waits[q].upto]];have T:=b3 T trivial [bE.cells 0 [.int .i64 g.waits[q].aU,.int .i64 g.waits[q].upto]];have V:=b3 V trivial [bE.cells 0 [.int .i64 g.waits[q].aU,.int .i64 g.waits[q].upto]];have z:=FH z iV [bE.cells 0 [.int .i64 g.waits[q].aU,.int .i64 g.waits[q].upto]]
  have aCA:X.length=M.length+1:=by rw[<-J];simp
  have Sc:∀p:mK->Bool,((g.waits.take q).filter p).length<=1000000:=λp=>by have:=pd p<|g.waits.take q;rw[eK]at this;omega
  rw[J]at U T V z ⊢;refine qd (first:=[]) (cap:=[.ref H.length 0 0,.ref (H.length+2) 0 0]) (aHq U iV iV iV iV iV iV (Sc _) (Sc _) g.waits[q]) aK ?_
  rintro v H' ⟨rfl,gj,pB,pE⟩;have B6:g.waits.take (q+1)=g.waits.take q++[g.waits[q]]:=fj ak;simp only[go_sem];refine aW ?_;refine⟨(q+1,H'),⟨ak,?_,(pE _ iV iV iV).trans T,(pE _ iV iV iV).trans V,λj aq=>(pE _ iV iV iV).trans<|z j aq,by simp only;omega⟩,by simp only;omega,⟨bU _ hw,rfl⟩⟩
  simp only[B6,wD];by_cases hk:g.waits[q].upto<=K
  ·simpa[hk]using gj
  ·simpa[hk]using gj
 ·have oc:q=g.waits.length:=iV
  subst oc;have O:decide ((g.waits.length:Int)<(g.waits.length:Int))=false:=kk
  rw[eG]at U;obtain⟨A,bZ⟩:∃A,A=g.waits.filter λw=> !decide (w.upto<=K):=⟨_,rfl⟩
  obtain⟨B,bX⟩:∃B,B=g.waits.filter λw=>decide (w.upto<=K):=⟨_,rfl⟩
  have aQm:B.length<=1000000:=by rw[bX];exact fr (pd ..) hl
  rw[<-bZ,<-bX]at U ⊢;obtain⟨-,v1,v2,v3⟩:=U;have C9:=bC v1 trivial;have Da:=bC v3 trivial;repeat' first|(refine ae ?_;simp only[go_sem,O,v1,C9,v3,Da,Od])|refine ao ?_|fail
  refine cE (ι:=Nat×ab) (λs=>[(2,.ref H.length 0 0),(4,.ref (H.length+1) 0 0),(6,.ref (H.length+2) 0 0),(10,.osl 1 M.length 1 0 B.length B.length),(35,.osl 2 (H.length+4) (B.length+1) 0 B.length B.length),(36,.int .i64 B.length),(37,.int .i64 s.1)])
   (λs=>M++(.cells 1 ((B.take s.1).map (λw=>.int .i64 w.aU)++List.replicate (B.length-s.1) (.int .i64 0))::s.2)) (λs=>s.1<=B.length) (λs=>B.length-s.1) (0,[]) (bW _) ?_ ?_ ?_
  ·simp[go_sem]
  ·simp
  rintro⟨j,L⟩ aq;simp only at aq ⊢;have HB:=ej (enc:=dy) (s:=2) (λ_=>rfl) B
  obtain⟨C,kj⟩:∃C,(B.take j).map (λw=>I.int .i64 w.aU)++List.replicate (B.length-j) (.int .i64 0)=C:=⟨_,rfl⟩
  obtain⟨G,aW⟩:∃G,M++(.cells 1 C::L)=G:=⟨_,rfl⟩;have aO4:C.length=B.length:=by rw[<-kj];simp;omega
  have m3:=Da (.cells 1 C::L);have m1:=C9 (.cells 1 C::L);rw[aW]at m1 m3;have m10:ay G M.length=.cells 1 C:=by rw[<-aW];simp only[go_sem]
  have gs:∀Y,ar G M.length Y=M++(Y::L):=λY=>by rw[<-aW];simp only[go_sem]
  rw[kj,aW];by_cases gi:j<B.length
  ·have O:decide ((j:Int)<(B.length:Int))=true:=cK;have e1:=A1 (enc:=dy) (s:=2) (λ_=>rfl) gi
   simp only[dy,I.cells]at e1;have hw:=dA gi iV
   have hlen:((B.take j).map (λw=>I.int .i64 w.aU)).length=j:=by rw[cv,eK];omega
   have dZ:=MY ((B.take j).map (λw=>I.int .i64 w.aU)) (B.length-j-1) (.int .i64 0)<|.int .i64 B[j].aU
   rw[hlen,show B.length-j-1+1=B.length-j by omega,kj]at dZ
   have ib:=bC m3 trivial;have n10:=bC m10 trivial;have aRy:=gN m10 trivial;have aOQ:(j<B.length)=True:=b5 gi;repeat' first|(refine ae ?_;simp only[go_sem,O,e1,HB,m3,ib,m10,n10,aRy,dZ,aO4,me,aOQ])|refine ao ?_|fail
   refine⟨(j+1,L++[.cells 0 [.int .i64 B[j].aU,.int .i64 B[j].upto]]),gi,by simp only;omega,bU _ hw,?_⟩
   rw[gs,fj gi,nQ,show B.length-j-1=B.length-(j+1) by omega]
   simp
  ·have q8:j=B.length:=iV
   subst q8;have O:decide ((B.length:Int)<(B.length:Int))=false:=kk
   have m0:=bC T trivial (.cells 1 C::L);have mt:=bC V trivial (.cells 1 C::L);rw[aW]at m0 mt;have z2:∀X,ay (ar G (H.length+4) X) (H.length+2)=_:=λX=>bY m1 iV X
   have z0:∀X,ay (ar G (H.length+4) X) H.length=_:=λX=>bY m0 iV X
   have aSk:∀X Y,ay (ar (ar G (H.length+4) X) H.length Y) (H.length+1)=_:=λX Y=>bY (bY mt iV X) iV Y
   have TR:∀X v Y,ay (ar (ar G (H.length+4) X) H.length<|.cells v Y) H.length=.cells v Y:=λX v Y=>dR (by rw[bc];exact dk m0 trivial) _
   have aSj:∀X Y v Z,ay (ar (ar (ar G (H.length+4) X) H.length Y) (H.length+1)<|.cells v Z) (H.length+1)=.cells v Z:=λX Y v Z=>dR (by rw[bc,bc];exact dk mt trivial) _
   repeat' first|(refine ae ?_;simp only[go_sem,O,m1,m3,HB,z2,z0,aSk,TR,aSj])|refine ao ?_|fail
   have bL:∀l:List mK,(l.map λw=>I.int .i64 w.aU).flatMap I.cells=l.map λw=>I.int .i64 w.aU:=λl=>by
    induction l with
    |nil=>rfl
    |cons x l aB=>rw[dz,nj,aB];rfl
   have aNL:C=(B.map λw:mK=>I.int .i64 w.aU).flatMap I.cells++[]:=by
    rw[<-kj,eG,Nat.sub_self,cA,bL];simp
   obtain⟨X,J⟩:∃X,ar (ar (ar G (H.length+4) (bE.cells (B.length+1) (dq (aS dy B) 0 (List.flatMap I.cells (List.replicate B.length (I.agg [I.int .i64 0,I.int .i64 0])))))) H.length<|bE.cells 0 [.int .i64 K,.osl 2 (H.length+3) (A.length+1) 0 A.length A.length]) (H.length+1) (bE.cells 0 [.int .i64 K,.osl 2 (H.length+3) (A.length+1) 0 A.length A.length])=X:=⟨_,rfl⟩;have m2:=bC v2 trivial (.cells 1 C::L);rw[aW]at m2;have dW:ay X (H.length+3)=.cells (A.length+1) (aS dy A++[]):=by rw[<-J,cA];exact bY (bY (bY m2 iV _) iV _) iV _
   have gy:ay X M.length=.cells 1 C:=by rw[<-J];exact bY (bY (bY m10 iV _) iV _) iV _
   obtain⟨qS,HN⟩:=NL (H:=H) (H':=X) (by rw[<-J,bc,bc,bc,<-aW,bF];omega) λj aq=>by rw[<-J,ho iV,ho iV,ho iV,<-aW,FH z iV _ j aq]
   rw[J];exact⟨qS,.aQ [kK false ⟨K,A⟩,.sl false<|B.map λw=>.int .i64 w.aU],HN,.aQ _ _ rfl<|dj (.agg _ _ rfl (dj (.cl _ (.int _ _)) (dj (Kz _ iV dW rfl rfl) fw))) (dj (q3 (es:=B.map λw=>.int .i64 w.aU) (rest:=[]) iV gy aNL (by rw[cv]) (λe he=>by(obtain⟨x, -,rfl⟩:=bJ.1 he;rfl)) (λe he=>by(obtain⟨x, -,rfl⟩:=bJ.1 he;exact .int _ _))) fw),by rw[sG];rfl⟩
theorem uN{j:Nat}(h1:i<G.length)(h2:j<G.length)(K:i<j):
  ((∀v X,ay (ar G i<|.cells v X) i=.cells v X)/\(∀v X L,ay (ar G i (.cells v X)++L) i=.cells v X)/\(∀v Y,ay (ar G j<|.cells v Y) j=.cells v Y)/\(∀v Y L,ay (ar G j (.cells v Y)++L) j=.cells v Y)/\
  (∀v X Z,ay (ar (ar G j Z) i<|.cells v X) i=.cells v X)/\(∀v X Z L,ay (ar (ar G j Z) i (.cells v X)++L) i=.cells v X)/\(∀v Y X,ay (ar (ar G j<|.cells v Y) i X) j=.cells v Y)/\(∀v Y X L,ay (ar (ar G j<|.cells v Y) i X++L) j=.cells v Y))/\
  ((∀X L,ar (G++L) i X=ar G i X++L)/\(∀X L,ar (G++L) j X=ar G j X++L)/\(∀X Y,ar (ar G i X) i Y=ar G i Y)/\(∀X Y L,ar (ar G i X++L) i Y=ar G i Y++L)/\(∀X Y,ar (ar G j X) j Y=ar G j Y)/\(∀X Y L,ar (ar G j X++L) j Y=ar G j Y++L)/\
  (∀X Y,ar (ar G i X) j Y=ar (ar G j Y) i X)/\(∀X Y L,ar (ar G i X++L) j Y=ar (ar G j Y) i X++L)/\(∀X Y L,ar (ar G j Y++L) i X=ar (ar G j Y) i X++L)/\(∀X Y Z,ar (ar (ar G j Y) i X) i Z=ar (ar G j Y) i Z)/\(∀X Y Z L,ar (ar (ar G j Y) i X++L) i Z=ar (ar G j Y) i Z++L)/\
  (∀X Y Z,ar (ar (ar G j Y) i X) j Z=ar (ar G j Z) i X)/\(∀X Y Z L,ar (ar (ar G j Y) i X++L) j Z=ar (ar G j Z) i X++L))/\
  ((∀k X L,ay (ar G k X++L) G.length=L.getD 0 .gone)/\(∀k X L m,ay (ar G k X++L) (G.length+m)=L.getD m .gone)/\(∀X Y L,ay (ar (ar G j Y) i X++L) G.length=L.getD 0 .gone)/\(∀X Y L m,ay (ar (ar G j Y) i X++L) (G.length+m)=L.getD m .gone)/\
  (∀k X L Z,ar (ar G k X++L) G.length Z=ar G k X++L.set 0 Z)/\(∀k X L m Z,ar (ar G k X++L) (G.length+m) Z=ar G k X++L.set m Z)/\(∀X Y L Z,ar (ar (ar G j Y) i X++L) G.length Z=ar (ar G j Y) i X++L.set 0 Z)/\(∀X Y L m Z,ar (ar (ar G j Y) i X++L) (G.length+m) Z=ar (ar G j Y) i X++L.set m Z)):=by
 have ne:j≠i:=iV
 have J:∀k X,(ar G k X).length=G.length:=λk X=>bc _ _ _
 have fh:∀X Y,(ar (ar G j Y) i X).length=G.length:=λX Y=>by rw[bc,bc]
 have U:∀X Y,ar (ar G i X) j Y=ar (ar G j Y) i X:=λX Y=>ub _ _ _ iV
 have a2:∀X Y Z,ar (ar (ar G j Y) i X) j Z=ar (ar G j Z) i X:=λX Y Z=>by rw[ub _ _ _ iV,jS]
 refine⟨⟨λv X=>dR h1 _,λv X L=>b3 (b:=.cells v X) (dR h1 _) trivial L,λv Y=>dR h2 _,λv Y L=>b3 (b:=.cells v Y) (dR h2 _) trivial L,λv X Z=>dR (by rw[J];exact h1) _,λv X Z L=>b3 (b:=.cells v X) (dR (by rw[J];exact h1) _) trivial L,
  λv Y X=>bY (dR h2 _) iV _,λv Y X L=>b3 (b:=.cells v Y) (bY (dR h2 _) iV _) trivial L⟩,
  ⟨λX L=>hX h1 L X,λX L=>hX h2 L X,λX Y=>jS _ _ _ _,λX Y L=>by rw[hX (by rw[J];exact h1),jS],λX Y=>jS _ _ _ _,λX Y L=>by rw[hX (by rw[J];exact h2),jS],U,λX Y L=>by rw[hX (by rw[J];exact h2),U],
  λX Y L=>hX (by rw[J];exact h1) L X,λX Y Z=>jS _ _ _ _,λX Y Z L=>by rw[hX (by rw[fh];exact h1),jS],a2,λX Y Z L=>by rw[hX (by rw[fh];exact h2),a2]⟩,
  λk X L=>ur<|J k X,λk X L m=>y3<|J k X,λX Y L=>ur<|fh X Y,λX Y L m=>y3<|fh X Y,λk X L Z=>Of (J k X) Z,λk X L m Z=>Jv (J k X) Z,λX Y L Z=>Of (fh X Y) Z,λX Y L m Z=>Jv (fh X Y) Z⟩
def e3(j:Nat)(who:Int)(u:eZ)(x:bK):List I:=[.sl false (x.m.log.entries.map dv),.sl false<|x.m.log.nodes.map ba,.int .i64 x.m.seen,.int .i64 x.m.rep,.sl false<|x.m.cN.map gL,.sl false<|x.m.cd.map dn,.int .i64 x.m.next,
 .sl false (x.t.held.map bx),.sl false<|x.t.waits.map bx,.int .i64 x.g.kept,.sl false<|x.g.waits.map dy,.osl 18 j 1 0 x.aC.length x.aC.length,.int .i64 x.time,.sl false<|x.ops.map bh,.int .i64 who,.int .i64 u.kind,.int .i64 u.lock]
structure hn (i j:Nat) (who:Int) (u:eZ) (x:bK) (G:ab):Prop where
 ne:i<j
 aO:ay G i=.cells 0 (e3 j who u x)
 bo:ay G j=.cells 1 (aS aU x.aC)
def e2(G:ab)(i j:Nat)(who:Int)(u:eZ)(x:bK):ab:=ar (ar G j (.cells 1 (aS aU x.aC))) i<|.cells 0 (e3 j who u x)
theorem AW(G:ab)(i j:Nat)(who:Int)(u:eZ)(x:bK):(e2 G i j who u x).length=G.length:=by unfold e2;rw[bc,bc]
section
variable {i j:Nat} {who:Int} {u:eZ} {x:bK} {G:ab} (h:hn i j who u x G)
include h
theorem hn.ey:i<G.length:=dk h.aO trivial
theorem hn.fq:j<G.length:=dk h.bo trivial
theorem hn.own:e2 G i j who u x=G:=by unfold e2;rw[lr h.bo trivial,lr h.aO trivial]
theorem hn.app(L:ab):hn i j who u x (G++L):=⟨h.ne,b3 h.aO trivial L,b3 h.bo trivial L⟩
theorem hn.EM(x':bK)(L:ab):e2 (G++L) i j who u x'=e2 G i j who u x'++L:=by
 unfold e2;rw[hX h.fq,hX<|by rw[bc];exact h.ey]
theorem hn.put(x':bK):hn i j who u x' (e2 G i j who u x'):=by
 have J:¬j=i:=by have:=h.ne;omega
 refine⟨h.ne,dR (by rw[bc];exact h.ey) _,?_⟩
 unfold e2;rw[ub _ _ _ J];exact dR (by rw[bc];exact h.fq) _
theorem hn.C8(U J:bK):e2 (e2 G i j who u U) i j who u J=e2 G i j who u J:=by
 have K:¬j=i:=by have:=h.ne;omega
 unfold e2;rw[ub (ar G j _) _ _ (λe=>K e.symm),jS,jS]
theorem hn.bb:∀X L,ay (ar G i X++L) j=.cells 1 (aS aU x.aC):=λX L=>b3 (bY h.bo (by have:=h.ne;omega) X) trivial L
theorem hn.bf:∀X,ay (ar G i X) j=.cells 1 (aS aU x.aC):=λX=>bY h.bo (by have:=h.ne;omega) X
theorem hn.dC:∀X,ay (ar G j X) i=.cells 0 (e3 j who u x):=λX=>bY h.aO (by have:=h.ne;omega) X
theorem hn.eF:∀X L,ay (ar G j X++L) i=.cells 0 (e3 j who u x):=λX L=>b3 (bY h.aO (by have:=h.ne;omega) X) trivial L
theorem hn.aC{l:List bz}(hl:l.length=x.aC.length):ar G j (.cells 1<|aS aU l)=e2 G i j who u {x with aC:=l}:=by
 unfold e2;rw[show e3 j who u {x with aC:=l}=e3 j who u x by unfold e3;rw[hl],lr (h.dC _) trivial]
theorem hn.one(hl:x'.aC=x.aC):ar G i (.cells 0<|e3 j who u x')=e2 G i j who u x':=by
 unfold e2;rw[hl,lr h.bo trivial]
end
theorem aLe(n:Nat)(l:List bz):ep n (.cells 1<|aS aU l):=KD (λx=>nb) n 1 l
theorem aLB{j n:Nat}(U:j<n)(who:Int)(u:eZ)(x:bK):ep n (.cells 0<|e3 j who u x):=λy J=>by
 unfold e3 at J;simp only[cU,lj,lk]at J;have ad:∀{α:Type} (f:α->I) (l:List α),(∀x,b6<|f x)->cM n (.sl false<|l.map f):=λf l K=>(b6.sl false _ λz O=>by obtain⟨w, -,rfl⟩:=bJ.1 O;exact K w).cl n
 rcases J with rfl|rfl|rfl|rfl|rfl|rfl|rfl|rfl|rfl|rfl|rfl|rfl|rfl|rfl|rfl|rfl|rfl<;>first|exact .int _ _|exact .osl _ _ _ _ _ _ U|exact ad _ _ λx=>nb
def sP(P:Program)(f:FuncId)(args:List I)(i j:Nat)(who:Int)(u:eZ)(x':bK)(G:ab):Prop:=dp P f (.ref i 0 0::args) G λv H'=>v=.aQ []/\H'=e2 G i j who u x'
theorem qx{j:Nat}{who:Int}{u:eZ}{x:bK}{A L:ab}(h:hn i j who u x G)(U:A=e2 G i j who u x'):
  ∃H1 K y,A++L=H1++K/\H1.length=G.length/\(∀(k:Nat) (b:bE),H1[k]?=some b->G[k]?=some b\/ep G.length b)/\cL G.length (A++L) (.aQ []) y/\(y=.aQ []/\H1=e2 G i j who u x'):=by
 subst U;refine⟨_,L,_,rfl,AW _ _ _ _ _ _,λk b hk=>?_,.cl _<|.aQ _ λ_ _ J=>by simp at J,rfl,rfl⟩
 unfold e2 at hk;rcases pn (aLB h.fq who u x') k b hk with hk|hk
 ·exact pn (aLe _ _) k b hk
 ·exact .inr hk
theorem JS{j:Nat}{who:Int}{u:eZ}{x:bK}{A:ab}(h:hn i j who u x G)(J:A=e2 G i j who u x'):
  ∃H1 U y,A=H1++U/\H1.length=G.length/\(∀(k:Nat) (b:bE),H1[k]?=some b->G[k]?=some b\/ep G.length b)/\cL G.length A (.aQ []) y/\(y=.aQ []/\H1=e2 G i j who u x'):=by
 have:=qx (L:=[]) h J;rwa[cA]at this
def Ub:List cu:=[.free,.pure 0,.pure 0,.pure 0,.pure 0,.free,.free,.pure 0,.pure 0,.pure 0,.pure 0,.pure 0,.pure 0,.eff [false,true,false,false,false,false,false,false,false,false]]
def Uc:List cu:=[.free,.pure 0,.pure 0,.pure 0,.pure 0,.free,.pure 0,.pure 0,.pure 0,.free,.pure 0,.pure 0,.pure 0,.pure 0,.free,.pure 0,.pure 0,.pure 0,.pure 0,.pure 0,.free,.pure 0,.pure 0,.pure 0,.pure 0,.pure 0,.eff [false,false,false,false,false,false,false,false,false,false,false,false,false,false,false,false,false,false,false,false,false]]
def Ud:List cu:=[.free,.pure 0,.pure 0,.pure 0,.pure 0,.pure 0,.pure 0,.free,.pure 0,.pure 0,.pure 0,.pure 0,.pure 0,.pure 0,.pure 0,.pure 0,.pure 0,.pure 0,.pure 0,.eff [false,false,false,false,false,false,false,false,false,false,false,false,false,false,false,false,false]]
attribute [go_sem] Ub Uc Ud
theorem Oq{j:Nat}{who:Int}{u:eZ}{x:bK}(J:hn i j who u x G)(hl:x.aC.length<=40)(n:Int):sP prog 168 [.int .i64 n] i j who u {x with aC:=my x.time x.aC n} G:=by
 refine jw func168 ?_;have V:=o9 [(2,Ub)];have U:=J.aO;have K:=bC J.aO trivial;have Z:=J.bo;have I:=bC J.bo trivial;have bb:=J.bb;have bf:=J.bf;have dC:=J.dC;have eF:=J.eF;simp only[e3]at U K dC eF;have z:=uN J.ey J.fq J.ne;have hJ:=ej (enc:=aU) (s:=18) (λ_=>rfl) x.aC
 unfold my hv;by_cases aw:0<=n
 ·have d0:decide (0<=n)=true:=cD aw;by_cases h1:n<x.aC.length
  ·have d1:decide (n<(x.aC.length:Int))=true:=cD h1;obtain⟨k,rfl⟩:∃k:Nat,n=(k:Int):=⟨n.toNat,iV⟩
   have hk:k<x.aC.length:=iV
   rw[aA ⟨aw,h1⟩,e5,et,da hk,pW];have cq:=AV (enc:=aU) (s:=18) (f:=8) (X:=[.bool true]) (λ_=>rfl) hk l9 {x.aC[k]with ended:=true} rfl
   have O:=AV (enc:=aU) (s:=18) (f:=12) (X:=[.int .i64 x.time]) (D:=x.aC.set k {x.aC[k]with ended:=true}) (k:=k) (λ_=>rfl) (by rw[kB];exact hk) kk {x.aC[k]with ended:=true,end_:=x.time} (by rw[Ga];rfl)
   rw[List.set_set]at O;have c8:(aS aU (x.aC.set k {x.aC[k]with ended:=true})).length=x.aC.length * 18:=by rw[ej (enc:=aU) (s:=18) (λ_=>rfl),kB]
   have T:k * 18+13<=x.aC.length * 18:=iV
   have hS:(k * 18+13<=x.aC.length * 18)=True:=b5 T;have aT:((0:Int)<=(k:Int)/\(k:Int)<(x.aC.length:Int))=True:=b5 ⟨aw,h1⟩;refine bP @bc ?_;exact JS J<|J.aC kk
  ·have d1:decide (n<(x.aC.length:Int))=false:=bN h1;rw[aj (λh=>h1 h.2)]
   refine bP @bc ?_;exact JS J J.own.symm
 ·have d0:decide (0<=n)=false:=bN aw;rw[aj (λh=>aw h.1)]
  refine bP @bc ?_;exact JS J J.own.symm
theorem I7{j:Nat}{who:Nat}{u:eZ}{x:bK}(J:hn i j who u x G)(hl:x.aC.length<=40)(ah:x.aC[who]?=some t)(hs:sO t):sP prog 203 [] i j who u {x with aC:=hv x.aC who λt=>dt t u} G:=by
 refine jw func203 ?_;have Z:=o9 [(0,Uc)];obtain⟨hk,rfl⟩:=cj.1 ah;rw[nK ah];have U:=J.aO;have K:=bC J.aO trivial;have z:=J.bo;have ma:=bC J.bo trivial;have bb:=J.bb;have bf:=J.bf;have dC:=J.dC;have eF:=J.eF;simp only[e3]at U K dC eF;have bG:=uN J.ey J.fq J.ne;have hJ:=ej (enc:=aU) (s:=18) (λ_=>rfl) x.aC
 have O:=Xh false false false x.aC[who] u hs;have T:=A1 (enc:=aU) (s:=18) (λ_=>rfl) hk
 have V:=JL (enc:=aU) (s:=18) (λ_=>rfl) hk<|dt x.aC[who] u
 simp only[aU,hy,kz,rC,I.cells]at O T V;refine bP @bc ?_;exact JS J<|J.aC kk
theorem XZ{j:Nat}{who:Int}{u:eZ}{x:bK}(J:hn i j who u x G)(hl:x.aC.length<=40)(h:dx)(hs:∀t∈x.aC,sO t):sP prog 205 [bx h] i j who u {x with aC:=mf x.aC h} G:=by
 refine jw func205 ?_;have z:=o9 [(3,Ud)];obtain⟨U,n⟩:=h;have K:=J.aO;have O:=bC J.aO trivial;have a8:=J.bo;have ma:=bC J.bo trivial;have bb:=J.bb;have bf:=J.bf;have dC:=J.dC;have eF:=J.eF;simp only[e3]at K O dC eF;have bG:=uN J.ey J.fq J.ne;have hJ:=ej (enc:=aU) (s:=18) (λ_=>rfl) x.aC
 unfold mf hv;by_cases aw:0<=n
 ·have d0:decide (0<=n)=true:=cD aw;by_cases h1:n<x.aC.length
  ·have d1:decide (n<(x.aC.length:Int))=true:=cD h1;obtain⟨k,rfl⟩:∃k:Nat,n=(k:Int):=⟨n.toNat,iV⟩
   have hk:k<x.aC.length:=iV
   rw[aA ⟨aw,h1⟩,e5,et,da hk,pW];have T:=Xh false false false x.aC[k] ⟨1,U⟩ (hs _ (ga hk));have V:=A1 (enc:=aU) (s:=18) (λ_=>rfl) hk
   have Z:=JL (enc:=aU) (s:=18) (λ_=>rfl) hk<|dt x.aC[k] ⟨1,U⟩
   simp only[aU,hy,kz,rC,I.cells]at T V Z;refine bP (gP bx.eq_1 @bc) ?_;exact qx J<|J.aC kk
  ·have d1:decide (n<(x.aC.length:Int))=false:=bN h1;rw[aj (λh=>h1 h.2)]
   refine bP (gP bx.eq_1 @bc) ?_;exact qx J J.own.symm
 ·have d0:decide (0<=n)=false:=bN aw;rw[aj (λh=>aw h.1)]
  refine bP (gP bx.eq_1 @bc) ?_;exact qx J J.own.symm
structure tK (x:bK):Prop where
 n:x.aC.length<=40
 qH:∀t∈x.aC,sO t
 held:x.t.held.length<=1000000
 waits:x.t.waits.length<=1000000
 HG:x.g.waits.length<=1000000
theorem hn.next{j:Nat}{who:Int}{u:eZ}{x:bK}(h:hn i j who u x G)(J U:bK)(L:ab):e2 (e2 G i j who u J++L) i j who u U=e2 G i j who u U++L:=by rw[(h.put J).EM,h.C8]
def S8:List cu:=[.free,.pure 0,.pure 0,.pure 0,.pure 0,.free,.pure 0,.pure 0,.pure 0,.free,.pure 0,.pure 0,.pure 0,.pure 0,.pure 0,.free,.free,.free,.eff [true,true,true,true,true,true,true,true,true,true,true,true],.eff [false,false,false,false,false,false,false,false,false,false,false,false],.free]
def Ue:List cu:=[.free,.pure 0,.pure 0,.pure 0,.pure 0,.free,.pure 0,.pure 0,.pure 0,.free,.pure 0,.pure 0,.pure 0,.pure 0,.pure 0,.free,.free,.free,.free,.eff [true,true,true,true,true,true,true,true,true,true,true,true],.eff [false,false,false,false,false,false,false,false,false,false,false,false],.free,.free]
def Uf:List cu:=[.free,.pure 0,.pure 0,.pure 0,.pure 0,.free,.pure 0,.pure 0,.pure 0,.free,.pure 0,.pure 0,.pure 0,.pure 0,.free,.pure 0,.pure 0,.pure 0,.pure 0,.pure 0,.pure 0,.pure 0,.free,.free,.free,.eff [true,true,true,true,true,true,true,true,true,true,true,true,true,true,true,true,true,true],.eff [false,false,false,false,false,false,false,false,false,false,false,false,false,false,false,false,false,false],.free]
def Ug:List cu:=[.free,.pure 0,.pure 0,.pure 0,.pure 0,.free,.pure 0,.pure 0,.pure 0,.free,.pure 0,.pure 0,.pure 0,.pure 0,.pure 0,.pure 0,.eff [false,true,false,false,false,false,false,false,false,false,false,false,false]]
attribute [go_sem] S8 Ue Uf Ug
theorem aIN{j:Nat}{who:Nat}{u:eZ}{x:bK}(J:hn i j who u x G)(U:tK x)(ah:x.aC[who]?=some t)(hu:u.kind=1):sP prog 171 [] i j who u (xW who u.lock x) G:=by
 refine jw func171 ?_;have K:=J.aO;have O:=bC J.aO trivial;have T:=J.bo;have V:=bC J.bo trivial;have bb:=J.bb;have bf:=J.bf;have dC:=J.dC;have eF:=J.eF;simp only[e3]at K O dC eF;have Z:=uN J.ey J.fq J.ne;have I:=aLd false false x.t who u.lock U.held U.waits;unfold xW;obtain⟨⟨t1,b⟩,z⟩:∃r,yl x.t who u.lock=r:=⟨_,rfl⟩;rw[z]at I ⊢;simp only[fB,Ef]at I;have h1:=J.one (x':={x with t:=t1}) rfl
 simp only[e3]at h1;cases b with
 |false=>
  repeat' first|((first|refine mx [0] S8 ?_|refine ae ?_);simp only[go_sem,K,O,T,bb,bf,dC,eF,V,Z,bc,h1])|refine ao ?_|fail
  exact qx J rfl
 |true=>
  repeat' first|((first|refine mx [0] S8 ?_|refine ae ?_);simp only[go_sem,K,O,T,bb,bf,dC,eF,V,Z,bc,h1])|refine ao ?_|fail
  refine dU (I7 ((J.put {x with t:=t1}).app _) U.n ah<|U.qH _ (ds ah)) aK ?_
  rintro v H' ⟨rfl,rfl⟩;rw[J.next];simp only[go_sem];repeat' first|(refine ae ?_;simp only[go_sem])|refine ao ?_|fail
  obtain⟨xR,ul⟩:=u;simp only at hu;subst hu;exact qx J rfl
theorem aIO{j:Nat}{who:Nat}{u:eZ}{x:bK}(J:hn i j who u x G)(U:tK x)(T:∀t∈(hv x.aC who λt=>dt t u),sO t)(ah:x.aC[who]?=some t)(hu:u.kind=2):sP prog 172 [] i j who u (xX who u.lock x) G:=by
 refine jw func172 ?_;have jC:=o9 [(0,Ue)];have V:=J.aO;have Z:=bC J.aO trivial;have a8:=J.bo;have ma:=bC J.bo trivial;have bb:=J.bb;have bf:=J.bf;have dC:=J.dC;have eF:=J.eF;simp only[e3]at V Z dC eF;have bG:=uN J.ey J.fq J.ne;have K:=aHm false false x.t who u.lock U.held U.waits;unfold xX;obtain⟨⟨t1,b⟩,I⟩:∃r,fy x.t who u.lock=r:=⟨_,rfl⟩;rw[I]at K ⊢;simp only[fB]at K;have h1:=J.one (x':={x with t:=t1}) rfl
 simp only[e3]at h1;obtain⟨xR,ul⟩:=u;simp only at hu;subst hu;cases b with
 |none=>
  simp only[Dt,Dn]at K;refine bP @bc ?_;refine dU (I7 ((J.put {x with t:=t1}).app _) U.n ah<|U.qH _ (ds ah)) aK ?_
  rintro v H' ⟨rfl,rfl⟩;rw[J.next];simp only[go_sem];repeat' first|(refine ae ?_;simp only[go_sem])|refine ao ?_|fail
  exact qx J rfl
 |some n=>
  simp only[pW,zn]at K;refine bP @bc ?_;refine dU (I7 ((J.put {x with t:=t1}).app _) U.n ah<|U.qH _ (ds ah)) aK ?_
  rintro v H' ⟨rfl,rfl⟩;rw[J.next];have aP:=(J.put {x with t:=t1,aC:=hv x.aC who λt=>dt t ⟨2,ul⟩}).app [bE.cells 0 [.sl false (t1.held.map bx),.sl false<|t1.waits.map bx]]
  have O:=aP.aO;have z:=bC O trivial;simp only[e3]at O z;simp only[go_sem];refine hH ?_;refine dU (XZ aP (by simp only[BC];exact U.n) ⟨ul,n⟩ T) aK ?_
  rintro v H' ⟨rfl,rfl⟩;rw[J.next];simp only[go_sem];repeat' first|(refine ae ?_;simp only[go_sem])|refine ao ?_|fail
  exact qx J rfl
theorem aIP{j:Nat}{who:Nat}{u:eZ}{x:bK}(J:hn i j who u x G)(U:tK x)(ah:x.aC[who]?=some t):sP prog 174 [] i j who u (wY who t x) G:=by
 refine jw func174 ?_;have Z:=o9 [(0,Uf)];have O:=J.aO;have T:=bC J.aO trivial;have I:=J.bo;have z:=bC J.bo trivial;have bb:=J.bb;have bf:=J.bf;have dC:=J.dC;have eF:=J.eF;simp only[e3]at O T dC eF;have bG:=uN J.ey J.fq J.ne;have K:=aIL false x.g who t.upto U.HG;have hJ:=ej (enc:=aU) (s:=18) (λ_=>rfl) x.aC
 have hk:=(cj.1 ah).1;have oV:(aS aU x.aC).getD (who * 18+9) .top=.int .i64 t.upto:=by
  unfold aS;rw[et,AO (s:=18) (es:=x.aC.map aU) (k:=who) (j:=9) (e:=aU t) (x:=.int .i64 t.upto) (λe he=>by(obtain⟨x, -,rfl⟩:=bJ.1 he;rfl)) (by rw[mF,ah];rfl) rfl]
  rfl
 have gu:((0:Int)<=(who:Int)/\(who:Int)<(x.aC.length:Int))=True:=b5 ⟨iV,iV⟩
 have gl:(who * 18+9<x.aC.length * 18)=True:=b5 iV
 unfold wY;obtain⟨⟨t1,b⟩,V⟩:∃r,wx x.g who t.upto=r:=⟨_,rfl⟩;rw[V]at K ⊢;simp only[kK]at K;have h1:=J.one (x':={x with g:=t1}) rfl
 have h2:=λL=>b3 (J.put {x with g:=t1}).aO trivial L
 simp only[e3]at h1 h2;cases b with
 |false=>
  refine bP @bc ?_;exact qx J rfl
 |true=>
  refine bP @bc ?_;have aP:=(J.put {x with g:=t1}).app [bE.cells 0 [.int .i64 t1.kept,.sl false<|t1.waits.map dy]]
  refine dU (Oq aP U.n who) aK ?_;rintro v H' ⟨rfl,rfl⟩;rw[J.next];simp only[go_sem];repeat' first|(refine ae ?_;simp only[go_sem])|refine ao ?_|fail
  exact qx J rfl
theorem aHr{j:Nat}{who:Nat}{u:eZ}{x:bK}(U:hn i j who u x G)(K:tK x)(ah:x.aC[who]?=some t)(hu:u=⟨5,0⟩):sP prog 175 [] i j who u (zJ who x) G:=by
 subst hu;refine jw func175 ?_;have z:=o9 [(1,Ug)];refine aW ?_;refine dU (I7 U K.n ah<|K.qH _ (ds ah)) aK ?_;rintro v H' ⟨rfl,rfl⟩;have hk:=(cj.1 ah).1;unfold zJ;rw[nK ah,nK ah];have J:=U.put {x with aC:=x.aC.set who (dt t ⟨5,0⟩)}
 obtain⟨O,T⟩:∃O,e2 G i j who ⟨5,0⟩ {x with aC:=x.aC.set who (dt t ⟨5,0⟩)}=O:=⟨_,rfl⟩;rw[T]at J ⊢;have hJ:(aS aU (x.aC.set who<|dt t ⟨5,0⟩)).length=x.aC.length * 18:=by rw[ej (enc:=aU) (s:=18) (λ_=>rfl),kB]
 have V:=AV (enc:=aU) (s:=18) (f:=12) (X:=[.int .i64 x.time]) (D:=x.aC.set who<|dt t ⟨5,0⟩) (k:=who) (λ_=>rfl) (by rw[kB];exact hk) kk {dt t ⟨5,0⟩with end_:=x.time} (by rw[Ga];rfl)
 rw[List.set_set]at V;have gu:((0:Int)<=(who:Int)/\(who:Int)<(x.aC.length:Int))=True:=b5 ⟨iV,iV⟩
 have gl:(who * 18+13<=x.aC.length * 18)=True:=b5 iV
 have Z:=J.aO;have a8:=J.bo;have I:=λv Y=>dR J.fq<|.cells v Y
 simp only[e3,kB]at Z;simp only[go_sem];refine hH ?_;refine JS U ?_;rw[J.aC (l:=x.aC.set who {dt t ⟨5,0⟩with end_:=x.time}) kk,<-T,U.C8]
def IT:List cu:=[.pure 0,.pure 0,.pure 0,.pure 0,.pure 0,.pure 0,.pure 0,.eff [false,true,true,true,true,true,true],.free,.eff [true,true,true,true,true,true],.pure 0,.pure 0,.pure 0,.pure 0,.eff [false,true,true,true,false,false,false,false,false,false]]
def IU:List cu:=[.pure 0,.pure 0,.pure 0,.pure 0,.pure 0,.pure 0,.pure 0,.pure 0,.pure 0,.free,.pure 0,.pure 0,.eff [false,true,false,false,false,false,false,false,false,false,false]]
def IV:List cu:=[.pure 0,.pure 0,.pure 0,.pure 0,.pure 0,.eff [false,true,true,true,false]]
def IW:List cu:=[.pure 0,.pure 0,.pure 0,.pure 0,.pure 0,.pure 0,.pure 0,.pure 0,.pure 0,.pure 0,.pure 0,.pure 0,.free,.free,.free,.eff [true,true,true,true,true,true,true,true,true,true,true,true],.eff [false,false,false,false,false,false,false,false,false,false,false,false],.free]
attribute [go_sem] IT IU IV IW
theorem aIQ:KT prog 166 dy 2:=(KU 2 [.int .i64 0,.int .i64 0] func166 V3).o
theorem aDE{X Y:List I}{off:Nat}(hl:X.length=Y.length)(K:off+X.length<=cs.length)(h:∀(i:Nat) (x y:I),X[i]?=some x->Y[i]?=some y->fv x y):∀(i:Nat) (x y:I),(dq cs off X)[i]?=some x->(dq cs off Y)[i]?=some y->fv x y:=λi x y J U=>by
 rw[KQ K]at J;rw[KQ (by rw[<-hl];exact K),<-hl]at U
 split at J
 ·rename_i hi;rw[aA hi]at U;exact h _ x y J U
 ·rename_i hi;rw[aj hi,J]at U;cases U;exact .refl x
theorem aHs{b:Nat}{n:Int}(h1:ay G b=.cells 0 [.ref i 0 0])(h2:ay G i=.cells 0 cs)(h3:cs.getD 14 .top=.int .i64 n)(h4:14<cs.length)(s:mK):aM prog 165 [dy s,.ref b 0 0] G (.bool<|decide (s.aU=n)):=by
 refine aZ func165 ?_;have g1:=bC h1 trivial;have g2:=bC h2 trivial;refine bP dy.eq_1 ?_;exact aV<|.refl _
theorem aHt{j:Nat}{who:Nat}{u:eZ}{x:bK}(J:hn i j who u x G)(aT:tK x)(ah:x.aC[who]?=some t):sP prog 118 [.bool true] i j who u (mw true who x) G:=by
 refine jw func118 ?_;have jC:=o9 [(3,IT),(4,IU),(5,IV),(6,IW)];have hk:=(cj.1 ah).1;have U:=J.aO;have O:=bC J.aO trivial;have V:=J.bo;have Z:=bC J.bo trivial;have bb:=J.bb;have bf:=J.bf;have dC:=J.dC;have eF:=J.eF;simp only[e3]at U O dC eF;have I:=uN J.ey J.fq J.ne;refine bP @bc ?_;refine p6 (V2 false x.g.waits (by have:=aT.HG;omega) _) aK ?_
 have dV:=U;have iA:i<G.length:=J.ey;simp only[go_sem,U,O,V,bb,bf,dC,eF,Z,I,bc];repeat' first|(refine ae ?_;simp only[go_sem,U,O,V,bb,bf,dC,eF,Z,I,bc])|refine ao ?_|fail
 refine p6 ((aIQ x.g.waits (λw=>decide<|w.aU=(who:Int)) (G.length+1) 1 x.g.waits.length x.g.waits.length rfl (bd _) (by have:=aT.HG;omega) (λz=>ay z G.length=.cells 0 [.ref i 0 0]/\ay z i=.cells 0 (e3 j who u x)) (λz b h=>⟨bY h.1 iV b,bY h.2 iV b⟩) (λz L h=>⟨b3 h.1 trivial L,b3 h.2 trivial L⟩) _
  (fn:=.func 165) (fs:=[]) (cs:=[.ref G.length 0 0]) nb (λs z aL=>Or.inl ⟨aK,aHs aL.1 aL.2 rfl (by simp[e3]) s⟩) ⟨nb,b3 J.aO trivial _⟩).Td kk) aK ?_
 obtain⟨W,gh⟩:∃W,W=x.g.waits.filter λw=> !decide (w.aU=(who:Int)):=⟨_,rfl⟩
 rw[<-gh];simp only[go_sem,U,O,V,bb,bf,dC,eF,Z,I,bc];refine aIr (v:=0) (vb:=1) (s:=2) (lc:=x.g.waits.length) (cs:=(e3 j who u x).set 10<|.osl 2 (G.length+1) 1 0 (W.map dy).length x.g.waits.length) (bs:=aS dy W) i (G.length+1) 10 (W.map dy) [] iV (by rw[cv];simp only[go_sem,U,O,V,bb,bf,dC,eF,Z,I,bc];rfl) rfl (by simp only[go_sem,U,O,V,bb,bf,dC,eF,Z,I,bc]) l9 (cA _).symm (λe he=>by(obtain⟨x, -,rfl⟩:=bJ.1 he;rfl)) ?_
 have h1:=J.one (x':={x with g:={x.g with waits:=W}}) rfl
 simp only[e3]at h1;simp only[e3,go_sem,U,O,V,bb,bf,dC,eF,Z,I,bc,h1];have K:=(J.put {x with g:={x.g with waits:=W}}).app [.cells 0 [.ref i 0 0],.gone]
 have g0:ay (e2 G i j who u {x with g:={x.g with waits:=W}}++[.cells 0 [.ref i 0 0],.gone]) G.length=.cells 0 [.ref i 0 0]:=by
  have:=AW G i j who u {x with g:={x.g with waits:=W}}
  rw[<-this];exact vY _ _
 obtain⟨dh,eI⟩:∃dh,e2 G i j who u {x with g:={x.g with waits:=W}}++[.cells 0 [.ref i 0 0],.gone]=dh:=⟨_,rfl⟩;rw[eI]at K g0 ⊢;have aO:=K.aO;have bo:=K.bo;have hG:=K.fq;have hJ:=ej (enc:=aU) (s:=18) (λ_=>rfl) x.aC
 have hS:(who * 18+18<=x.aC.length * 18)=True:=b5 iV
 have gu:((0:Int)<=(who:Int)/\(who:Int)<(x.aC.length:Int))=True:=b5 ⟨iV,iV⟩
 simp only[e3]at aO bo;have Zk:=λv Y=>dR hG<|.cells v Y
 iterate 2 first|((first|refine mx [3] IT ?_|refine mx [4] IU ?_|refine mx [5] IV ?_|refine mx [6] IW ?_|refine ae ?_);simp only[go_sem,aO,bo,Zk,g0,hJ,hS,gu])|refine ao ?_|fail
 have rf:x.aC[who]=t:=(cj.1 ah).2;obtain⟨T,HN⟩:∃T,x.aC.set who {t with ec:={du with err:=120}}=T:=⟨_,rfl⟩;have c8:T.length=x.aC.length:=by rw[<-HN,kB]
 have xi:=AV (enc:=aU) (s:=18) (f:=13) (X:=[.int .i64 120,.str [],.sl false [],.int .i64 0,.sl false []]) (λ_=>rfl) hk kk {t with ec:={du with err:=120}} (by rw[rf];rfl)
 rw[HN]at xi;refine Kj (v:=1) (cs:=dq (aS aU x.aC) (who * 18+13) [.int .i64 120,.str [],.sl true [],.int .i64 0,.sl true []]) j (aS aU T) (Zk _ _) ?_ ?_ ?_
 ·rw[<-xi,GP (by rw[hJ];simp;omega),GP<|by rw[hJ];simp;omega]
 ·rw[<-xi];exact aDE rfl (by rw[hJ];simp;omega)<|c6 (.refl _) (c6 (.refl _) (c6 (.sl _ _) (c6 (.refl _) (c6 (.sl _ _) kZ))))
 have jk:=K.put {x with g:={x.g with waits:=W},aC:=T}
 rw[jS,K.aC c8];have g2:∀dW,ay (e2 dh i j who u dW) G.length=.cells 0 [.ref i 0 0]:=λdW=>by
  unfold e2;exact bY (bY g0 (by have:=J.fq;omega) _) iV _
 have c1:=jk.aO;simp only[e3]at c1;repeat' first|((first|refine mx [3] IT ?_|refine mx [4] IU ?_|refine mx [5] IV ?_|refine mx [6] IW ?_|refine ae ?_);simp only[go_sem,c1,g2])|refine ao ?_|fail
 refine p6 (Oq jk (by rw[c8];exact aT.n) who) aK ?_
 rw[K.C8];have iS:=(K.put {x with g:={x.g with waits:=W},aC:=my x.time T who}).aO
 have r4:(my x.time T who).length=x.aC.length:=by unfold my;rw[BC,c8]
 simp only[e3,r4]at iS;simp only[go_sem,iS,g2];repeat' first|(refine ae ?_;simp only[go_sem,iS,g2])|refine ao ?_|fail
 rw[<-eI,J.next];refine qx J ?_;unfold mw;rw[aA rfl,nK ah,HN,gh]
theorem aHu{j:Nat}{who:Nat}{u:eZ}{x:bK}(J:hn i j who u x G)(V:tK x)(aD:x.ops.length<=1073741824):sP prog 118 [.bool false] i j who u (mw false who x) G:=by
 refine jw func118 ?_;have jC:=o9 [(3,IT),(4,IU),(5,IV),(6,IW)];have br:=J.aO;have a6:=bC J.aO trivial;have a8:=J.bo;have ma:=bC J.bo trivial;have bb:=J.bb;have bf:=J.bf;have dC:=J.dC;have eF:=J.eF;simp only[e3]at br a6 dC eF;have bG:=uN J.ey J.fq J.ne;have I:=aIM false x.g x.ops.length V.HG;unfold mw;rw[aj l9]
 obtain⟨⟨t1,U⟩,z⟩:∃r,zV x.g x.ops.length=r:=⟨_,rfl⟩;have b7:U.length<=1000000:=by
  have:=bU (λr=>r.2.length) z
  simp only[zV,cv]at this;rw[<-this];exact fr (pd ..) V.HG
 rw[z]at I ⊢;simp only[kK]at I;have h1:=J.one (x':={x with g:=t1}) rfl
 simp only[e3]at h1;refine bP @bc ?_;obtain⟨K,Z8⟩:∃K,[bE.cells 0 [.ref i 0 0],bE.cells 0 [.int .i64 t1.kept,.sl false<|t1.waits.map dy]]=K:=⟨_,rfl⟩;obtain⟨X,O⟩:∃X:Nat->bK,(λq=>{x with g:=t1,aC:=(U.take q).foldl (my x.time) x.aC})=X:=⟨_,rfl⟩
 have QX:∀q,(X q).aC.length=x.aC.length:=λq=>by rw[<-O];exact Lb _ _ _
 have Z:∀q,(X q).time=x.time:=λq=>by rw[<-O]
 have g0:∀q,ay (e2 G i j who u (X q)++K) G.length=.cells 0 [.ref i 0 0]:=λq=>by rw[<-Z8];exact ur<|AW ..
 rw[Z8];refine cE (ι:=Nat) (λs=>[(2,.ref G.length 0 0),(63,.sl false<|U.map bq),(64,.int .i64 U.length),(65,.int .i64 s)]) (λs=>e2 G i j who u (X s)++K) (λs=>s<=U.length) (λs=>U.length-s) 0 (bW _) ?_ (by rw[<-O];rfl) ?_
 ·simp[go_sem]
 rintro q aJ;by_cases T:q<U.length
 ·have bg:decide ((q:Int)<(U.length:Int))=true:=cK;have ad:=di bq T;have hw:=dA T iV
  have g1:=g0 q;simp only[bq]at ad;refine hH ?_;refine dU (Oq ((J.put (X q)).app K) (by rw[QX];exact V.n) U[q]) aK ?_
  rintro v H' ⟨rfl,rfl⟩;rw[J.next];simp only[go_sem];refine aW ?_;refine⟨q+1,T,iV,bU _ hw,?_⟩
  rw[Z,<-O];simp only;rw[fj T,u0];rfl
 ·have oc:q=U.length:=iV
  subst oc;have bg:decide ((U.length:Int)<(U.length:Int))=false:=kk
  refine hH ?_;refine qx J ?_;rw[<-O];simp only[eG]
end Go.Proofs.YtnmamncmpklliaaGreatDoor

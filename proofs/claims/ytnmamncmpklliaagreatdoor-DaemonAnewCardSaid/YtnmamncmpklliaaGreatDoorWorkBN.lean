/- What the functions of this seat answer (40 of 53). No condition. -/
import Derived.Test.YtnmamncmpklliaaGreatDoorWorkBD
import Derived.Test.YtnmamncmpklliaaGreatDoorWorkBL
import Derived.Test.YtnmamncmpklliaaGreatDoorWorkBM
set_option linter.unusedSimpArgs false
set_option linter.unusedVariables false
set_option maxRecDepth 100000
set_option maxHeartbeats 16000000
namespace Go.Proofs.YtnmamncmpklliaaGreatDoor
variable{α:Type}{i j:Nat}{c:b8}{d:cn}{G:ab}
open Go.Proofs.Tryz
theorem aEs{p:α->Bool}{A B:List α}{x:α}(K:A.filter (λx=> !p x)=A)(J:p x=true):(A++x::B).find? p=some x:=by
 rw[List.find?_append];have:A.find? p=none:=by
  rw[wF];intro a U;rw[<-K]at U;have:=(lV.1 U).2;simpa using this
 rw[this];simp[J]
theorem aDD{n:Int}{A B:List oH}{w:oH}(U:A.filter (λx=> !decide (x.n=n))=A)(J:w.n=n):wj n (A++w::B)=A++{w with bV:=[]}::B:=by
 induction A with
 |nil=>simp[wj,J]
 |cons a A O=>
  have K:a.n≠n:=by
   have T:a∈(a::A).filter (λx=> !decide (x.n=n)):=by rw[U];simp
   simpa using(lV.1 T).2
  rw[iN,wj,aj K,O]
  ·rfl
  ·rw[sE,aA<|by simp[K]]at U
   exact(Dq U).2
theorem aGA{p:α->Bool}{l:List α}(h:eT p l= -1):l.find? p=none:=by
 rw[wF];intro x J;rw[<-M0 h]at J;have:=(lV.1 J).2;simpa using this
def SU:List cu:=[.pure 0,.pure 0,.pure 0,.pure 0,.pure 0,.pure 0,.eff [false,true,true,true,true,true],.pure 0,.pure 0,.pure 0,.eff [false,true,true,false,false,false,false,false]]
def SX:List cu:=[.free,.pure 0,.free,.pure 0,.pure 0,.pure 0,.free,.pure 0,.pure 0,.pure 0,.pure 0,.pure 0,.pure 0,.free,.free,.free,.pure 0,.pure 0,.eff [false,true,false,false,false,false,false,false,false,false,false,true],.pure 0,.pure 0,.pure 0,.eff [false,true,true,false,false]]
def T9:List cu:=[.free,.free,.pure 0,.pure 0,.pure 0,.free,.free,.pure 0,.pure 0,.pure 0,.pure 0,.pure 0,.free,.pure 0,.pure 0,.pure 0,.pure 0,.pure 0,.pure 0,.pure 0,.eff [false,true,false,false,false,false,false,false,false,false,false,false,false,false,false]]
attribute [go_sem] SU SX T9
theorem aI2(V:gE i j c d G)(hs:oD d.m):sw prog 274 i j c (D7 c d) G:=by
 refine GZ func274 ?_;have J:=V.aO;have U:=bC V.aO trivial;have K:=bC V.bo trivial;have aN:=V.ne;have dd:=V.ey;have z:=V.fq;have bb:=V.bb;have bf:=V.bf;have O:=bc G i;simp only[fG]at J U;have T:=qC dd z aN rfl;have Z:∀H,ay H G.length=.cells 0 [.ref i 0 0]->ay H i=.cells 0 (fG j c d)->aM prog 311 [.sl false (d.m.cd.map dn),.func (.func 312) [] [.ref G.length 0 0]] H (.int .i64<|eT (λs=>decide (s.n=c.n)) d.m.cd):=
  λH h1 h2=>Un false d.m.cd (.func 312) [] [.ref G.length 0 0] (λs=>decide<|s.n=c.n) H (λs=>.mk (first:=[]) (λL=>aI0 G.length (b3 h1 trivial L) (b3 h2 trivial L) s) aK)
 simp only[fG]at Z;have k1:¬i=G.length:=iV
 unfold D7;have vF:=hs.cd;by_cases h1:eT (λs:oH=>decide<|s.n=c.n) d.m.cd= -1
 ·rw[h1]at Z;rw[aGA h1];repeat' first|((first|refine hY (Z _ (by simp only[go_sem,J,U,K,bb,bf,O,T,bc,Int.reduceLT])<|by simp only[go_sem,J,U,K,bb,bf,O,T,bc,Int.reduceLT]) aK ?_|refine kf (Z _ (by simp only[go_sem,J,U,K,bb,bf,O,T,bc,Int.reduceLT])<|by simp only[go_sem,J,U,K,bb,bf,O,T,bc,Int.reduceLT]) aK ?_|refine kg (λ_=>Z _ (by simp only[go_sem,J,U,K,bb,bf,O,T,bc,Int.reduceLT])<|by simp only[go_sem,J,U,K,bb,bf,O,T,bc,Int.reduceLT]) aK ?_|refine ae ?_);simp only[go_sem,J,U,K,bb,bf,O,T,bc,Int.reduceLT])|refine ao ?_|fail
  exact OT V rfl _
 obtain⟨A,w,B,av,al,aY,bu⟩:=Up h1;rw[al]at Z;have hw:w.n=c.n:=by simpa using aY
 have CG:d.m.cd.find? (λs=>decide<|s.n=c.n)=some w:=by rw[av];exact aEs bu aY
 rw[CG];simp only;have L5:wj c.n d.m.cd=A++{w with bV:=[]}::B:=by rw[av];exact aDD bu hw
 rw[L5];have hle:w.bV.length<=1000000:=hs.bV w<|by rw[av];simp
 have hlen:d.m.cd.length=A.length+(B.length+1):=by rw[av];simp
 have d1:decide (((A.length:Nat):Int)<0)=false:=cQ;repeat' first|((first|refine hY (Z _ (by simp only[go_sem,J,U,K,bb,bf,O,T,bc,d1])<|by simp only[go_sem,J,U,K,bb,bf,O,T,bc,d1]) aK ?_|refine kf (Z _ (by simp only[go_sem,J,U,K,bb,bf,O,T,bc,d1])<|by simp only[go_sem,J,U,K,bb,bf,O,T,bc,d1]) aK ?_|refine kg (λ_=>Z _ (by simp only[go_sem,J,U,K,bb,bf,O,T,bc,d1])<|by simp only[go_sem,J,U,K,bb,bf,O,T,bc,d1]) aK ?_|refine mx [4] SU ?_|refine mx [6] SX ?_|refine ae ?_);simp only[go_sem,J,U,K,bb,bf,O,T,bc,d1])|refine ao ?_|fail
 refine p6 (Nf false d.m.cd iV _) aK ?_
 simp only[go_sem,J,U,K,bb,bf,O,T,bc];have EX:=ej (enc:=dn) (s:=4) (λ_=>rfl) A
 have dH:aS dn d.m.cd=aS dn A++(.int .i64 w.n::.int .i64 w.dir::.sl false (w.bV.map c9)::.bool w.over::aS dn B):=by rw[av,iR,q1];rfl
 have jZ:List.drop (A.length * 4+2) (aS dn d.m.cd)=.sl false (w.bV.map c9)::.bool w.over::aS dn B:=by
  rw[dH,<-EX,List.drop_append];simp
 have vM:List.take 2 (List.drop (A.length * 4+2)<|aS dn d.m.cd)=[.sl false (w.bV.map c9),.bool w.over]:=by rw[jZ];rfl
 have yU:(aS dn d.m.cd).getD (A.length * 4+2) .top=.sl false (w.bV.map c9):=by
  rw[et,<-List.head?_drop,jZ];rfl
 have pz:(aS dn d.m.cd).length=(A.length+(B.length+1)) * 4:=by rw[ej (s:=4) (λ_=>rfl),hlen]
 have l5:=aMj false w.over w.bV (w.bV.length:Int) iV
 simp only[e5,Nat.min_self,oy,eG,hj]at l5;have dZ:dq (aS dn d.m.cd) (A.length * 4+2) [.sl false [],.bool w.over]=aS dn (A++{w with bV:=[]}::B):=by
  have e:=rS (A:=aS dn A++[.int .i64 w.n,.int .i64 w.dir]) (B:=.sl false (w.bV.map c9)::.bool w.over::aS dn B) (off:=A.length * 4+2) (X:=[.sl false [],.bool w.over])<|by simp[EX]
  rw[dH];rw[show aS dn A++[I.int .i64 w.n,.int .i64 w.dir]++(.sl false (w.bV.map c9)::.bool w.over::aS dn B)=aS dn A++(.int .i64 w.n::.int .i64 w.dir::.sl false (w.bV.map c9)::.bool w.over::aS dn B) by simp]at e
  rw[e,iR,q1];simp[dn,I.cells]
 repeat' first|((first|refine mx [4] SU ?_|refine mx [6] SX ?_|refine ae ?_);simp only[go_sem,J,U,K,bb,bf,O,T,bc,hlen,vM,yU,pz,dZ])|refine ao ?_|fail
 refine JQ V rfl rfl rfl ?_;unfold fG;repeat' first|exact fw|refine dj ?_ ?_|exact .cl _ (.int _ _)|exact .cl _ (.str _)|exact .cl _ (Gl _ _ _)|exact .cl _ (Gk _ _ _)|exact .cl _ (Gm _ _ _)|exact .cl _ (Gn _ _ _)|exact .cl _ (Gp _ _ _)|exact .cl _ (Gq _ _ _)|exact .cl _<|.osl _ _ _ _ _ _ z
 exact C3 iV (by first|(simp only[go_sem,J,U,K,bb,bf,O,T,bc];done)|(simp only[go_sem,J,U,K,bb,bf,O,T,bc];rfl)) kk (λ_=>rfl) λx=>nb
theorem aFU(a b:List eQ):(u7 a b).length<=a.length+b.length+b.length:=by
 unfold u7;simp only[bF,cv];have h1:=pd (ke b) a;have h2:=pd (ke a) b;have h3:=pd (ph a) b;have h4:=pd (ke b) a.reverse;rw[List.length_reverse]at h4;omega
theorem Tv{l:List aE}(h:ln l){dir:Int}(hd:dm dir=true):(mO l dir).length<=l.length:=by
 unfold mO;split
 ·rename_i J;exact PJ J h _ _ _ hd
 ·exact bW _
theorem aI3{d':cn}{L:ab}{cs:List I}(h:gE i j c d G)(K:d'.ops=d.ops)(hl:cs.length=18)
  (O:∀(m:Nat) (x y:I),cs[m]?=some x->(fG j c d')[m]?=some y->cL G.length (ar G i (.cells 0 cs)++L) x y):
  ∃A U H1 y,ar G i (.cells 0 cs)++L=A++U/\A.length=G.length/\H1.length=G.length/\BS G.length (ar G i (.cells 0 cs)++L) A H1 G/\cL G.length (ar G i (.cells 0 cs)++L) (.aQ []) y/\(y=.aQ []/\H1=gw G i j c d'):=by
 obtain⟨A,U,H1,y,av,al,T,V, -, -,Z⟩:=JQ (e:=0) h rfl K hl O;exact⟨A,U,H1,_,av,al,T,V,.cl _<|.aQ _ λ_ _ J=>by simp at J,rfl,Z⟩
structure TZ (b1:List aE) (d:cn):Prop where
 TB:ln b1
 TC:ln d.m.log.nodes
 aCi:tO b1
 aCj:tO d.m.log.nodes
 len:b1.length<=1000000
 dir:∀w∈d.m.cd,dm w.dir=true
theorem aI4(J:gE i j c d G)(hs:oD d.m)(f:Bool)(b1:List aE)(ah:TZ b1 d):
  dp prog 233 [.ref i 0 0,.sl f<|b1.map ba] G (λv H'=>v=.aQ []/\H'=gw G i j c (zF b1 d)):=by
 refine GZ func233 ?_;have U:=J.aO;have K:=bC J.aO trivial;have O:=bC J.bo trivial;have aN:=J.ne;have dd:=J.ey;have c8:=J.fq;have bb:=J.bb;have bf:=J.bf;have V:=bc G i;simp only[fG]at U K;have Z:=qC dd c8 aN rfl;have vF:=hs.cd;have nB:=hs.nodes;repeat' first|(refine ae ?_;simp only[go_sem,U,K,O,bb,bf,V,Z,bc])|refine ao ?_|fail
 refine dU (Nf false d.m.cd iV _) aK ?_
 rintro v H' ⟨rfl,rfl⟩;simp only[go_sem,U,K,O,bb,bf,V,Z,bc];repeat' first|(refine ae ?_;simp only[go_sem,U,K,O,bb,bf,V,Z,bc])|refine ao ?_|fail
 obtain⟨T,h0⟩:∃T,T=PQ b1 d.m.log.nodes:=⟨_,rfl⟩;obtain⟨W,z⟩:∃W:Nat->List oH,W=λk=>(d.m.cd.take k).map T++d.m.cd.drop k:=⟨_,rfl⟩
 have LZ:∀k,(W k).length=d.m.cd.length:=λk=>by rw[z];simp only[bF,cv,eK,fT];omega
 obtain⟨n,af⟩:∃n,n=d.m.cd.length:=⟨_,rfl⟩;rw[<-af]at LZ vF ⊢;obtain⟨X,cS⟩:∃X:List I,X=[.sl false (d.m.log.entries.map dv),.sl false<|d.m.log.nodes.map ba,.int .i64 d.m.seen,.int .i64 d.m.rep,.sl false<|d.m.cN.map gL,.osl 4 G.length 1 0 n n,.int .i64 d.m.next,
  .int .i64 d.a.err,.str d.a.data,.sl false<|d.a.names.map I.str,.int .i64 d.a.n,.sl false<|d.a.events.map c9,
  .int .i64 c.kind,.str c.path,.str c.to,.str c.data,.int .i64 c.n,.osl 7 j (d.ops.length+1) 0 d.ops.length d.ops.length]:=⟨_,rfl⟩
 refine cE (ι:=Nat) (λk=>[(0,.ref i 0 0),(1,.sl f<|b1.map ba),(21,.int .i64 n),(22,.int .i64 k)]) (λk=>ar G i (.cells 0 X)++[.cells 1 (aS dn<|W k)]) (λk=>k<=n) (λk=>n-k) 0 (bW _) ?_ ?_ ?_
 ·simp[go_sem]
 ·rw[cS,z];simp
 intro k hk;by_cases ak:k<n
 ·have QS:W k=(d.m.cd.take k).map T++d.m.cd[k]::d.m.cd.drop (k+1):=by rw[z];simp only;rw[ij iV]
  have QT:W (k+1)=(d.m.cd.take k).map T++T d.m.cd[k]::d.m.cd.drop (k+1):=by rw[z];simp only;rw[fj iV,nQ,dr];rfl
  obtain⟨w,hw⟩:∃w,w=d.m.cd[k]:=⟨_,rfl⟩;rw[<-hw]at QS QT;have uq:w∈d.m.cd:=by rw[hw];exact ga _
  obtain⟨A,bZ⟩:∃A,A=(d.m.cd.take k).map T:=⟨_,rfl⟩;have aNG:A.length=k:=by rw[bZ,cv,eK];omega
  rw[<-bZ]at QS QT;have EX:=ej (enc:=dn) (s:=4) (λ_=>rfl) A
  rw[aNG]at EX;have dH:aS dn (W k)=aS dn A++(.int .i64 w.n::.int .i64 w.dir::.sl false (w.bV.map c9)::.bool w.over::aS dn (d.m.cd.drop<|k+1)):=by rw[QS,iR,q1];rfl
  have pz:(aS dn (W k)).length=n * 4:=by rw[ej (s:=4) (λ_=>rfl),LZ]
  have jZ:∀q,List.drop (k * 4+q) (aS dn<|W k)=List.drop q (.int .i64 w.n::.int .i64 w.dir::.sl false (w.bV.map c9)::.bool w.over::aS dn (d.m.cd.drop<|k+1)):=λq=>by
   rw[dH,<-EX,List.drop_append];simp
  have vM:List.take 2 (List.drop (k * 4+2)<|aS dn (W k))=[.sl false (w.bV.map c9),.bool w.over]:=by rw[jZ];rfl
  have yU:(aS dn (W k)).getD (k * 4+1) .top=.int .i64 w.dir:=by
   rw[et,<-List.head?_drop,jZ];rfl
  have eC:=ah.dir w uq;have aOs:=aK5 f false b1 d.m.log.nodes w.dir ah.TB ah.TC eC (by have:=ah.len;omega) iV ah.aCi ah.aCj
  obtain⟨D,cc⟩:∃D,D=u7 (mO b1 w.dir) (mO d.m.log.nodes w.dir):=⟨_,rfl⟩;rw[<-cc]at aOs;have uf:D.length<=1073741824:=by
   have h1:=aFU (mO b1 w.dir)<|mO d.m.log.nodes w.dir;have h2:=Tv ah.TB eC;have h3:=Tv ah.TC eC;have:=ah.len;rw[cc];omega
  have hle:=hs.bV w uq;have r6:=aME false false w.over w.bV D iV uf
  have aN9:T w={w with bV:=(oI w.bV w.over D).1,over:=(oI w.bV w.over D).2}:=by rw[h0,cc];rfl
  have dZ:dq (aS dn<|W k) (k * 4+2) [.sl false ((oI w.bV w.over D).1.map c9),.bool (oI w.bV w.over D).2]=aS dn (W<|k+1):=by
   have e:=rS (A:=aS dn A++[.int .i64 w.n,.int .i64 w.dir]) (B:=.sl false (w.bV.map c9)::.bool w.over::aS dn (d.m.cd.drop (k+1))) (off:=k * 4+2) (X:=[.sl false ((oI w.bV w.over D).1.map c9),.bool (oI w.bV w.over D).2])<|by simp[EX]
   rw[dH];rw[show aS dn A++[I.int .i64 w.n,.int .i64 w.dir]++(.sl false (w.bV.map c9)::.bool w.over::aS dn (d.m.cd.drop<|k+1))=aS dn A++(.int .i64 w.n::.int .i64 w.dir::.sl false (w.bV.map c9)::.bool w.over::aS dn (d.m.cd.drop<|k+1)) by simp]at e
   rw[e,QT,iR,q1,aN9];simp[dn,I.cells]
  have bg:decide ((k:Int)<(n:Int))=true:=cK;repeat' first|((first|refine mx [5] T9 ?_|refine ae ?_);simp only[go_sem,U,K,O,bb,bf,V,Z,bc,cS,bg,vM,yU,pz,dZ])|refine ao ?_|fail
  exact⟨k+1,ak,iV,bU _<|dA ak iV,rfl⟩
 ·have kn:k=n:=iV
  have bg:decide ((k:Int)<(n:Int))=false:=cQ;repeat' first|(refine ae ?_;simp only[go_sem,U,K,O,bb,bf,V,Z,bc,bg])|refine ao ?_|fail
  have aAa:W k=(zF b1 d).m.cd:=by
   rw[z,kn,af];simp only[eG,oy,cA];rw[h0];rfl
  rw[aAa];subst cS;refine aI3 J rfl rfl ?_;unfold fG;repeat' first|exact fw|refine dj ?_ ?_|exact .cl _ (.int _ _)|exact .cl _ (.str _)|exact .cl _ (Gl _ _ _)|exact .cl _ (Gk _ _ _)|exact .cl _ (Gm _ _ _)|exact .cl _ (Gn _ _ _)|exact .cl _ (Gp _ _ _)|exact .cl _ (Gq _ _ _)|exact .cl _<|.osl _ _ _ _ _ _ c8
  exact C3 (bd _) (by first|(simp only[go_sem,U,K,O,bb,bf,V,Z,bc];done)|(simp only[go_sem,U,K,O,bb,bf,V,Z,bc];rfl)) (by rw[<-aAa,LZ]) (λ_=>rfl) λx=>nb
structure NU (d0 d:cn) (k:Nat):Prop where
 bk:oD d.m
 cZ:d.m.log.entries.length<=200
 nodes:d.m.log.nodes.length<=400+401 * k
 ops:d.ops.length<=d0.ops.length+k
theorem aFV{d0:cn}{k:Nat}(h:NU d0 d k)(hk:k<200){o:aX}(J:hD o):NU d0 (ox d o).2 (k+1):=by
 obtain⟨K,O,U⟩:=DO d.m.log o;have T:=U h.cZ;have h1:=h.nodes;have h2:=h.ops;have h3:=h.cZ;unfold ox;split
 ·refine⟨⟨by simp only;omega,by simp only;omega,λe he=>VK d.m.log o hD h.bk.ops J e he,h.bk.cN,h.bk.cd,h.bk.snap,h.bk.bV⟩,by simp only;omega,by simp only;omega,by simp only[bF,cg,eg];omega⟩
 ·exact⟨h.bk,h3,by simp only;omega,by simp only;omega⟩
theorem aFW{b:ag}{l:List aX}(h:iJ b=some l):l.length<=b.length:=by
 have key:∀(n:Nat) (b:ag) (l:List aX),o6 n b=some l->l.length<=n:=by
  intro n;induction n with
  |zero=>
   intro b l h;unfold o6 at h;split at h
   ·cases h;simp
   ·cases h
  |succ n J=>
   intro b l h;unfold o6 at h;split at h
   ·cases h;simp
   ·simp only[ni]at h;obtain⟨⟨o,r⟩, -,h2⟩:=h;simp only[hC]at h2;obtain⟨t,h3,rfl⟩:=h2;have:=J r t h3;rw[cg];omega
 exact key _ _ _ h
theorem aGB(f:aX)(k:Nat)(o:aX)(G:ab)(hk:ay G k=.cells 0 (bh o).cells):aM prog 314 [bh f,.ref k 0 0] G (.bool<|decide (f.at_=o.at_)):=by
 refine aZ func314 ?_;have J:=bC hk trivial;simp only[bh,I.cells]at hk J;refine bP bh.eq_1 ?_;exact aV<|.of (by rw[XL])
theorem aI5(l:List aX)(o:aX)(i v lc n k:Nat)(af:n=l.length)(U:n<=lc)(hl:n<=1073741824)(H:ab)(K:ay H i=.cells v (aS bh l))(hk:ay H k=.cells 0 (bh o).cells):
  aM prog 315 [.osl 7 i v 0 n lc,.func (.func 314) [] [.ref k 0 0]] H (.bool<|l.any λf=>decide (f.at_=o.at_)):=by
 refine aZ func315 ?_;have J:=aIf l (λf=>decide (f.at_=o.at_)) i v lc n af U hl (fn:=.func 314) (fs:=[]) (cs:=[.ref k 0 0]) H K λx=>Or.inl ⟨aK,aGB x k o H hk⟩
 repeat' first|((first|refine jg J ?_|refine ae ?_);simp only[go_sem])|refine ao ?_|fail
 exact bD<|.of (by rw[Jf])
theorem aGC(K:gE i j c d G)(hs:oD d.m)(au:np c)(hl:d.ops.length<=1000)(eU:d.m.log.entries.length<=200/\d.m.log.nodes.length<=400):sw prog 276 i j c (BH c d) G:=by
 refine jw func276 ?_;have br:=K.aO;have a6:=bC K.aO trivial;have a8:=bC K.bo trivial;have aN:=K.ne;have dd:=K.ey;have c8:=K.fq;have bb:=K.bb;have bf:=K.bf;have b7:=bc G i;simp only[fG]at br a6;have bG:=qC dd c8 aN rfl;unfold BH;have tb:=aGT c.data (by have:=au.data;omega)
 unfold O7 at tb;cases az:iJ c.data with
 |none=>
  simp only[az]at tb;repeat' first|(refine ae ?_;simp only[go_sem,br,a6,a8,bb,bf,b7,bG,bc])|refine bt ?_|(refine bB ?_ ?_<;>intro h<;>try exact bA h)|fail
  exact jT K rfl K.own.symm
 |some l=>
  simp only[az]at tb ⊢;obtain⟨z,aT⟩:∃z,z=(if(200:Int)<(d.m.log.entries.length:Int)+((gq d.m.log [] l).length:Int)then(193,d)else
   if(mY d (gq d.m.log [] l)).1=0 then
    (0,{(mY d (gq d.m.log [] l)).2 with a:={(mY d (gq d.m.log [] l)).2.a with n:=(gq d.m.log [] l).length},m:={(mY d (gq d.m.log [] l)).2.m with seen:=l.foldl (λn o=>lP n o.at_) d.m.seen}})
   else mY d (gq d.m.log [] l)):=⟨_,rfl⟩
  rw[<-aT];have vJ:l.length<=1048576:=fr (aFW az) au.data;have pC:∀o∈l,hD o:=λo aD=>Dw<|DR az o aD
  repeat' first|(refine ae ?_;simp only[go_sem,br,a6,a8,bb,bf,b7,bG,bc])|refine ao ?_|fail
  refine y2 6 7 rfl ?_;obtain⟨U,lI⟩:∃U,U=gq d.m.log [] l:=⟨_,rfl⟩;obtain⟨A5,mu⟩:∃A5,A5=l.foldl (λn o=>lP n o.at_) d.m.seen:=⟨_,rfl⟩
  rw[<-lI,<-mu]at aT;refine qD (ι:=ab) (λM=>[(0,.ref i 0 0),(5,.int .i64 A5),(6,.osl 7 G.length (U.length+1) 0 U.length U.length)]) (λM=>G++(.cells (U.length+1) (aS bh U)::M)) (λ_=>U.length<=l.length) ?_ λM dH=>?_
  ·refine cE (ι:=Nat×Int×List aX×ab) (λs=>[(0,.ref i 0 0),(5,.int .i64 s.2.1),(6,.osl 7 G.length (s.2.2.1.length+1) 0 s.2.2.1.length s.2.2.1.length),(29,.sl false<|l.map bh),(30,.int .i64 l.length),(31,.int .i64 s.1)])
    (λs=>G++(.cells (s.2.2.1.length+1) (aS bh s.2.2.1)::s.2.2.2)) (λs=>s.1<=l.length/\s.2.2.1.length<=s.1/\U=gq d.m.log s.2.2.1 (l.drop s.1)/\A5=(l.drop s.1).foldl (λn o=>lP n o.at_) s.2.1) (λs=>l.length-s.1) (0,d.m.seen,[],[]) ⟨bW _,bd _,lI,mu⟩ ?_ rfl ?_
   ·simp[go_sem]
   rintro⟨k,s,acc,M⟩ ⟨hk,V,Z,iX⟩;simp only at hk V Z iX ⊢;obtain⟨cW,aW⟩:∃cW,G++(.cells (acc.length+1) (aS bh acc)::M)=cW:=⟨_,rfl⟩;rw[aW];have g0:ay cW G.length=.cells (acc.length+1) (aS bh acc):=by rw[<-aW];simp only[go_sem]
   have g1:=bC g0 trivial;have g2:=gN g0 trivial;have gs:∀X,ar cW G.length X=G++(X::M):=λX=>by rw[<-aW];simp only[go_sem]
   have jk:gE i j c d cW:=aW▸K.app _;have nf:=jk.aO;have cq:=bC jk.aO trivial;simp only[fG]at nf cq;by_cases O:k<l.length
   ·have jZ:=ij O;rw[jZ,gq]at Z;rw[jZ,mG]at iX;have ck:=di bh O;obtain⟨o,aD⟩:∃o,o=l[k]:=⟨_,rfl⟩;rw[<-aD]at Z iX ck;simp only[bh]at ck;have bg:decide ((k:Int)<(l.length:Int))=true:=cK;have xk:=Wy s o.at_ true;have Cm:=Yr false false d.m.log o.at_;simp only[om,C6]at Cm;have hw:=dA O iV
    have dH:=ej (enc:=bh) (s:=7) (λ_=>rfl) acc
    have AD:=aI5 acc o G.length (acc.length+1) acc.length acc.length cW.length rfl (bd _) iV (cW++[.cells 0 [.int .i64 o.at_.c,.int .i64 o.at_.r,.int .i64 o.kind,.int .i64 o.node,.int .i64 o.parent,.str o.name,.str o.data]]) (g1 _)<|vY _ _
    have j0:(∀e,e=I.agg [.int .i64 o.at_.c,.int .i64 o.at_.r,.int .i64 o.kind,.int .i64 o.node,.int .i64 o.parent,.str o.name,.str o.data]->e.cells.length=7)=True:=b5 λe he=>by rw[he];rfl
    have jD:((acc.length+1) * 72<=140737488355328)=True:=b5 iV
    cases bZ:rv d.m.log.entries o.at_ with
    |true=>
     rw[bZ]at Cm Z;repeat' first|(refine ae ?_;simp only[go_sem,nf,cq,g0,g1,g2,ck,bg,O])|refine ao ?_|fail
     exact⟨(k+1,lP s o.at_,acc,M++[.cells 0 (bh o).cells]),⟨O,by simp only;omega,by simpa using Z,iX⟩,by simp only;omega,⟨rfl,rfl,bU _ hw⟩,by show cW++[.cells 0 (bh o).cells]=_;rw[<-aW];simp⟩
    |false=>
     rw[bZ]at Cm Z;cases bX:acc.any (λf=>decide<|f.at_=o.at_)with
     |true=>
      rw[bX]at AD Z;repeat' first|((first|refine jg AD ?_|refine ae ?_);simp only[go_sem,nf,cq,g0,g1,g2,ck,bg,O])|refine ao ?_|fail
      exact⟨(k+1,lP s o.at_,acc,M++[.cells 0 (bh o).cells]),⟨O,by simp only;omega,by simpa using Z,iX⟩,by simp only;omega,⟨rfl,rfl,bU _ hw⟩,by show cW++[.cells 0 (bh o).cells]=_;rw[<-aW];simp⟩
     |false=>
      rw[bX]at AD Z;repeat' first|((first|refine jg AD ?_|refine ae ?_);simp only[go_sem,nf,cq,g0,g1,g2,ck,bg,O,j0,jD,dH])|refine ao ?_|fail
      refine⟨(k+1,lP s o.at_,acc++[o],M++[.cells 0 (bh o).cells]),⟨O,by simp only[bF,cg,eg];omega,by simpa using Z,iX⟩,by simp only;omega,⟨rfl,?_,bU _ hw⟩,?_⟩
      ·simp
      ·rw[gs];simp[iR,q1,JK,bh,I.cells]
   ·have kn:k=l.length:=iV
    have bg:decide ((k:Int)<(l.length:Int))=false:=cQ;repeat' first|(refine ae ?_;simp only[go_sem,bg])|refine ao ?_|fail
    have Au:acc=U:=by rw[Z,kn,oy];rfl
    have xk:s=A5:=by rw[iX,kn,oy];rfl
    rw[<-Au,<-xk];exact⟨M,iV,⟨rfl,rfl⟩,aW.symm⟩
  refine CN [6] (U.map bh) (v:=U.length+1) (lc:=U.length) (i:=G.length) (s:=7) (cs:=aS bh U) (by intro t ah;simp only[dF]at ah;subst ah;rw[cv];simp only[go_sem]) nb iV rfl (λe he=>by(obtain⟨x, -,rfl⟩:=bJ.1 he;rfl)) ?_
  simp only[go_sem,dz,hj];obtain⟨Bs,LY⟩:∃Bs:ab,Bs=.gone::M:=⟨_,rfl⟩;rw[<-LY];have gI:=eU.1;have aA8:IntKind.i64.wrap ((d.m.log.entries.length:Int)+(U.length:Int))=(d.m.log.entries.length:Int)+(U.length:Int):=bI;by_cases LV:(200:Int)<(d.m.log.entries.length:Int)+(U.length:Int)
  ·have h2:decide ((200:Int)<(d.m.log.entries.length:Int)+(U.length:Int))=true:=cD LV;rw[aA LV]at aT;subst aT;repeat' first|(refine ae ?_;simp only[go_sem,br,a6,a8,bb,bf,b7,bG,bc,aA8,h2])|refine bt ?_|(refine bB ?_ ?_<;>intro h<;>try exact bA h)|fail
   exact uB K rfl K.own.symm
  have h2:decide ((200:Int)<(d.m.log.entries.length:Int)+(U.length:Int))=false:=bN LV;rw[aj LV]at aT;have ES:∀o∈U,hD o:=λo aD=>by
   rw[lI]at aD;rcases K9 _ _ _ o aD with h|h
   ·cases h
   ·exact pC o h
  repeat' first|(refine ae ?_;simp only[go_sem,br,a6,a8,bb,bf,b7,bG,bc,aA8,h2])|refine ao ?_|fail
  refine qD (ι:=cn×ab) (λ_=>[(0,.ref i 0 0),(5,.int .i64 A5),(6,.sl false<|U.map bh)]) (λs=>gw G i j c s.1++s.2) (λs=>mY d U=(0,s.1)) ?_ fun⟨T,M2⟩ xb=>?_
  ·refine cE (ι:=Nat×cn×ab) (λs=>[(0,.ref i 0 0),(5,.int .i64 A5),(6,.sl false<|U.map bh),(72,.sl false<|U.map bh),(73,.int .i64 U.length),(74,.int .i64 s.1)]) (λs=>gw G i j c s.2.1++s.2.2)
    (λs=>s.1<=U.length/\mY d U=mY s.2.1 (U.drop s.1)/\NU d s.2.1 s.1) (λs=>U.length-s.1) (0,d,Bs) ⟨bW _,rfl,⟨hs,eU.1,by have:=eU.2;simp only;omega,bd _⟩⟩ ?_ (by rw[K.own]) ?_
   ·simp[go_sem]
   rintro⟨k,T,M2⟩ ⟨hk,V,xb⟩;simp only at hk V xb ⊢;obtain⟨gD,lC⟩:∃gD,gw G i j c T++M2=gD:=⟨_,rfl⟩;have vx:gE i j c T gD:=lC▸(K.put T).app M2;have vS:∀d2,gw gD i j c d2=gw G i j c d2++M2:=λd2=>by rw[<-lC,(K.put T).EM,K.C8]
   rw[lC];by_cases O:k<U.length
   ·have jZ:=ij O;rw[jZ,mY]at V;have ck:=di bh O;have Ry:=ES _<|ga O;obtain⟨o,aD⟩:∃o,o=U[k]:=⟨_,rfl⟩;rw[<-aD]at V ck Ry;simp only[bh]at ck;have bg:decide ((k:Int)<(U.length:Int))=true:=cK;have hw:=dA O iV
    have ql:=xb.ops;repeat' first|(refine ae ?_;simp only[go_sem,ck,bg,O])|refine ao ?_|fail
    refine dU (XU (vx.app _) xb.bk (o:=o) Ry iV) aK ?_
    rintro v H' ⟨rfl,rfl⟩;rw[vx.EM,vS];have mr:=aFV xb iV Ry
    obtain⟨⟨x,d1⟩,pF⟩:∃r,ox T o=r:=⟨_,rfl⟩;rw[pF]at V mr ⊢;simp only[go_sem]at V mr ⊢;by_cases J:x=0
    ·subst J;rw[aA rfl]at V;repeat' first|(refine ae ?_;simp only[go_sem])|refine ao ?_|fail
     exact⟨(k+1,d1,M2++[.cells 0 (bh o).cells]),⟨O,V,mr⟩,by simp only;omega,bU _ hw,by simp[bh,I.cells]⟩
    ·have hd:decide (x=0)=false:=bN J;rw[aj J]at V;rw[V,aj J]at aT;subst aT;repeat' first|(refine ae ?_;simp only[go_sem,hd])|refine bt ?_|(refine bB ?_ ?_<;>intro h<;>try exact bA h)|fail
     exact uB K rfl rfl
   ·have kn:k=U.length:=iV
    have bg:decide ((k:Int)<(U.length:Int))=false:=cQ;repeat' first|(refine ae ?_;simp only[go_sem,bg])|refine ao ?_|fail
    rw[kn,oy,mY]at V;exact⟨(T,M2),V,lC.symm⟩
  simp only at xb;rw[xb]at aT;simp only[dG]at aT;have aXN:=JO G i j c T;obtain⟨dh,eI⟩:∃dh,gw G i j c T=dh:=⟨_,rfl⟩;have fN:gE i j c T dh:=eI▸K.put T;have Cf:dh.length=G.length:=by rw[<-eI,JO]
  have vS:∀d2,gw dh i j c d2=gw G i j c d2:=λd2=>by rw[<-eI,K.C8]
  simp only;rw[eI];have br:=fN.aO;have a6:=bC fN.aO trivial;have a8:=bC fN.bo trivial;have aN:=fN.ne;have dd:=fN.ey;have c8:=fN.fq;have bb:=fN.bb;have bf:=fN.bf;have b7:=Cf;simp only[fG]at br a6;have bG:=qC dd c8 aN Cf;subst aT;repeat' first|(refine ae ?_;simp only[go_sem,br,a6,a8,bb,bf,b7,bG,bc])|refine bt ?_|(refine bB ?_ ?_<;>intro h<;>try exact bA h)|fail
  refine uB K rfl ?_;rw[<-vS];exact fN.one (d':={T with a:={T.a with n:=U.length},m:={T.m with seen:=A5}}) rfl
end Go.Proofs.YtnmamncmpklliaaGreatDoor

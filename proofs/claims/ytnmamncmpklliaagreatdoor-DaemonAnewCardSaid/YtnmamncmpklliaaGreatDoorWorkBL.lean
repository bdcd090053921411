/- What the functions of this seat answer (38 of 53). No condition. -/
import Derived.Test.YtnmamncmpklliaaGreatDoorWorkBJ
set_option linter.unusedSimpArgs false
set_option linter.unusedVariables false
set_option maxRecDepth 100000
set_option maxHeartbeats 16000000
namespace Go.Proofs.YtnmamncmpklliaaGreatDoor
variable{α:Type}{s n i v k lc j:Nat}{H G:ab}{cs:List I}{c:b8}{d:cn}{e:Int}{wv fY dW gy xV Dk JF JG JH JI Jy Jz JA JB JC JD JE:I}
open Go.Proofs.Tryz
theorem C3{enc:α->I}{D:List α}(af:n<=i)(J:ay H i=.cells v (aS enc D))(hk:D.length=k)(hs:∀x,(enc x).cells.length=s)(ad:∀x,b6<|enc x):cL n H (.osl s i v 0 k lc) (.sl false<|D.map enc):=
 q3 (es:=D.map enc) (rest:=[]) af J (cA _).symm (by rw[cv,hk]) (λe he=>by(obtain⟨x, -,rfl⟩:=bJ.1 he;exact hs x)) (λe he=>by(obtain⟨x, -,rfl⟩:=bJ.1 he;exact ad x))
theorem Xp{enc:α->I}{D:List α}(af:n<=i)(U:ay H i=.cells v cs)(hk:D.length=k)(hl:cs.length=D.length * s)(hs:∀x,(enc x).cells.length=s)
  (h:∀(m:Nat) (x y:I),cs[m]?=some x->(aS enc D)[m]?=some y->cL n H x y):cL n H (.osl s i v 0 k lc) (.sl false<|D.map enc):=
 .osl s i v 0 k lc cs _ af U (by rw[cv,hk]) (by rw[hl,hk];omega) (λe he=>by(obtain⟨x, -,rfl⟩:=bJ.1 he;exact hs x)) λq j e x y he K J=>
  h (q * s+j) x y (by rwa[j9]at J) (AO (λe he=>by(obtain⟨x, -,rfl⟩:=bJ.1 he;exact hs x)) he K)
theorem VX{A B C:List I}(K:∀x∈A,b6 x)(h:∀(m:Nat) (x y:I),B[m]?=some x->C[m]?=some y->cL n H x y):∀(m:Nat) (x y:I),(A++B)[m]?=some x->(A++C)[m]?=some y->cL n H x y:=λm x y J U=>by
 by_cases hm:m<A.length
 ·rw[iP hm]at J U;rw[J]at U;cases U;exact .cl _<|(K x (ds J)).cl _
 ·rw[pX iV]at J U
  exact h _ x y J U
theorem JQ{d':cn}{L:ab}(h:gE i j c d G){v:I}(U:v=.int .i64 e)(K:d'.ops=d.ops)(hl:cs.length=18)
  (O:∀(m:Nat) (x y:I),cs[m]?=some x->(fG j c d')[m]?=some y->cL G.length (ar G i (.cells 0 cs)++L) x y):
  ∃A T H1 y,ar G i (.cells 0 cs)++L=A++T/\A.length=G.length/\H1.length=G.length/\BS G.length (ar G i (.cells 0 cs)++L) A H1 G/\cL G.length (ar G i (.cells 0 cs)++L) v y/\(y=.int .i64 e/\H1=gw G i j c d'):=by
 subst U;refine⟨_,L,_,_,rfl,bc _ _ _,JO _ _ _ _ _,λk a b J hk=>?_,.cl _<|.int _ _,rfl,rfl⟩
 rw[<-h.one K]at hk;by_cases e:i=k
 ·subst e;rw[ar,rH h.ey]at J hk;cases J;cases hk;exact .inr ⟨0,cs,_,rfl,rfl,hl,O⟩
 ·rw[ar,gC e]at J hk;rw[J]at hk;cases hk;exact .inl ⟨rfl,.inl J⟩
theorem OT(h:gE i j c d G){v:I}(K:v=.int .i64 e)(L:ab):
  ∃A O H1 y,G++L=A++O/\A.length=G.length/\H1.length=G.length/\BS G.length (G++L) A H1 G/\cL G.length (G++L) v y/\(y=.int .i64 e/\H1=gw G i j c d):=by
 subst K;exact⟨G,L,G,_,rfl,rfl,rfl,λk a b J U=>by(rw[J]at U;cases U;exact .inl ⟨rfl,.inl J⟩),.cl _<|.int _ _,rfl,h.own.symm⟩
theorem NH(h:gE i j c d G){v:I}(J:v=.int .i64 e):
  ∃A U H1 y,G=A++U/\A.length=G.length/\H1.length=G.length/\BS G.length G A H1 G/\cL G.length G v y/\(y=.int .i64 e/\H1=gw G i j c d):=by
 have:=OT h J [];rwa[cA]at this
def T6:List cu:=[.free,.pure 0,.pure 0,.pure 0,.pure 0,.free,.pure 0,.pure 0,.pure 0,.pure 0,.pure 0,.pure 0,.free,.eff [true,true,true,true,true,true,true,true,true,true],.eff [false,false,false,false,false,false,false,false,false,false]]
def T7:List cu:=[.free,.free,.pure 0,.pure 0,.pure 0,.pure 0,.eff [false,true,true,true],.pure 1,.free,.eff [true,true,true,true],.pure 0,.pure 0,.pure 0,.eff [false,true,true,false,false,false,false]]
def T8:List cu:=[.free,.free,.pure 0,.pure 0,.pure 0,.pure 0,.eff [false,true,true,true],.free,.pure 1,.pure 1,.pure 1,.pure 1,.free,.free,.free,.eff [true,true,true,true,true,true,true],.pure 0,.pure 0,.pure 0,.eff [false,true,true,false,false,false,false,false,false,false]]
def IQ:List cu:=[.pure 0,.pure 0,.pure 0,.pure 0,.pure 0,.pure 0,.eff [false,true,true,true,true,true],.free,.eff [true,true,true,true,true],.pure 0,.pure 0,.pure 0,.eff [false,true,true,false,false,false,false,false]]
attribute [go_sem] T6 T7 T8 IQ
theorem aIY(J:gE i j c d G):sw prog 275 i j c (0,d) G:=by
 refine jw func275 ?_;refine aW ?_;exact jT J rfl J.own.symm
theorem aIZ(J:gE i j c d G)(hs:oD d.m):sw prog 271 i j c (D5 d) G:=by
 refine GZ func271 ?_;have jC:=o9 [(4,T6),(5,T7)];have K:=J.aO;have O:=bC J.aO trivial;have T:=bC J.bo trivial;have aN:=J.ne;have dd:=J.ey;have V:=J.fq;have bb:=J.bb;have bf:=J.bf;have Z:=bc G i;simp only[fG]at K O;have z:=qC dd V aN rfl;unfold D5;by_cases U:(8:Int)<=(d.m.cN.length:Int)
 ·have d8:decide ((8:Int)<=(d.m.cN.length:Int))=true:=cD U;rw[aA U];refine hH ?_;exact NH J rfl
 have d8:decide ((8:Int)<=(d.m.cN.length:Int))=false:=bN U;rw[aj U];have q6:=Vp false d.m.log.nodes (by have:=hs.nodes;omega)
 refine hH ?_;refine p6 (UY false d.m.cN (by have:=hs.cN;omega) _) aK ?_
 have dH:=ej (enc:=gL) (s:=2) (λ_=>rfl) d.m.cN
 have j0:(∀e,e=I.agg [.int .i64 d.m.next,.sl false<|d.m.log.nodes.map ba]->e.cells.length=2)=True:=b5 λe he=>by rw[he];rfl
 have jD:((d.m.cN.length+1) * 32<=140737488355328)=True:=b5 (by have:=hs.cN;omega)
 simp only[go_sem,K,O,T,bb,bf,Z,z,bc,dH,j0,jD];refine hH ?_;refine JQ J rfl rfl rfl ?_;unfold fG;repeat' first|exact fw|refine dj ?_ ?_|exact .cl _ (.int _ _)|exact .cl _ (.str _)|exact .cl _ (Gl _ _ _)|exact .cl _ (Gk _ _ _)|exact .cl _ (Gm _ _ _)|exact .cl _ (Gn _ _ _)|exact .cl _ (Gp _ _ _)|exact .cl _ (Gq _ _ _)|exact .cl _<|.osl _ _ _ _ _ _ V
 exact C3 iV (by rw[iR];simp only[go_sem,K,O,T,bb,bf,Z,z,bc];rfl) kk (λ_=>rfl) λx=>nb
theorem aGz(J:gE i j c d G)(hs:oD d.m)(au:np c):sw prog 273 i j c (D1 c d) G:=by
 refine GZ func273 ?_;have jC:=o9 [(9,T8)];have K:=J.aO;have O:=bC J.aO trivial;have T:=bC J.bo trivial;have aN:=J.ne;have dd:=J.ey;have V:=J.fq;have bb:=J.bb;have bf:=J.bf;have Z:=bc G i;simp only[fG]at K O;have z:=qC dd V aN rfl;unfold D1;have e1:=Eb false d.m.log.nodes c.path (by have:=hs.nodes;omega) au.path
 obtain⟨⟨id,e⟩,aF⟩:∃x,fi d.m.log.nodes c.path=x:=⟨_,rfl⟩;rw[aF]at e1 ⊢;simp only[uL]at e1;by_cases he:e=0
 ·subst he;simp only[dG];have ik:=uV id;cases eC:dm id with
  |false=>
   rw[eC]at ik;rw[aj kk]
   refine hH ?_;exact NH J rfl
  |true=>
   rw[eC]at ik;rw[aA rfl];by_cases U:(8:Int)<=(d.m.cd.length:Int)
   ·have d8:decide ((8:Int)<=(d.m.cd.length:Int))=true:=cD U;rw[aA U];refine hH ?_;exact NH J rfl
   have d8:decide ((8:Int)<=(d.m.cd.length:Int))=false:=bN U;rw[aj U];refine hH ?_;refine p6 (Nf false d.m.cd (by have:=hs.cd;omega) _) aK ?_
   have dH:=ej (enc:=dn) (s:=4) (λ_=>rfl) d.m.cd
   have j0:(∀e,e=I.agg [.int .i64 d.m.next,.int .i64 id,.sl true [],.bool false]->e.cells.length=4)=True:=b5 λe he=>by rw[he];rfl
   have jD:((d.m.cd.length+1) * 48<=140737488355328)=True:=b5 (by have:=hs.cd;omega)
   simp only[go_sem,K,O,T,bb,bf,Z,z,bc,dH,j0,jD];refine hH ?_;refine JQ J rfl rfl rfl ?_;unfold fG;repeat' first|exact fw|refine dj ?_ ?_|exact .cl _ (.int _ _)|exact .cl _ (.str _)|exact .cl _ (Gl _ _ _)|exact .cl _ (Gk _ _ _)|exact .cl _ (Gm _ _ _)|exact .cl _ (Gn _ _ _)|exact .cl _ (Gp _ _ _)|exact .cl _ (Gq _ _ _)|exact .cl _<|.osl _ _ _ _ _ _ V
   refine Xp (bd _) (by simp only[go_sem,K,O,T,bb,bf,Z,z,bc];rfl) kk (by simp only[bF,dH,cg,eg];omega) (λ_=>rfl) ?_
   rw[iR];refine VX (y4 (λx=>nb) _) ?_
   repeat' first|exact fw|refine dj ?_ ?_|exact .cl _ (.int _ _)|exact .cl _ (.bool _)|exact .Jn _ _<|(b6.sl true [] (λ_ h=>by cases h)).cl _
 ·have hd:decide (e=0)=false:=bN he;simp only[aj he];refine hH ?_;exact NH J rfl
theorem Xq{n:Int}(k:Nat)(hk:ay G k=.cells 0 [.ref i 0 0])(hi:ay G i=.cells 0 [wv,fY,dW,gy,xV,Dk,JF,JG,JH,JI,Jy,Jz,JA,JB,JC,JD,.int .i64 n,JE])(s:Bw):aM prog 305 [gL s,.ref k 0 0] G (.bool<|decide (s.n=n)):=by
 refine aZ func305 ?_;have J:=bC hk trivial;have U:=bC hi trivial;refine bP gL.eq_1 ?_;exact aV<|.refl _
theorem WH{n:Int}(k:Nat)(hk:ay G k=.cells 0 [.ref i 0 0])(hi:ay G i=.cells 0 [wv,fY,dW,gy,xV,Dk,JF,JG,JH,JI,Jy,Jz,JA,JB,JC,JD,.int .i64 n,JE])(s:oH):aM prog 306 [dn s,.ref k 0 0] G (.bool<|decide (s.n=n)):=by
 refine aZ func306 ?_;have J:=bC hk trivial;have U:=bC hi trivial;refine bP dn.eq_1 ?_;exact aV<|.refl _
theorem aI0{n:Int}(k:Nat)(hk:ay G k=.cells 0 [.ref i 0 0])(hi:ay G i=.cells 0 [wv,fY,dW,gy,xV,Dk,JF,JG,JH,JI,Jy,Jz,JA,JB,JC,JD,.int .i64 n,JE])(s:oH):aM prog 312 [dn s,.ref k 0 0] G (.bool<|decide (s.n=n)):=by
 refine aZ func312 ?_;have J:=bC hk trivial;have U:=bC hi trivial;refine bP dn.eq_1 ?_;exact aV<|.refl _
theorem aI1(Z:gE i j c d G)(hs:oD d.m):sw prog 272 i j c (D6 c d) G:=by
 refine GZ func272 ?_;have jC:=o9 [(5,IQ),(6,IQ)];have J:=Z.aO;have U:=bC Z.aO trivial;have K:=bC Z.bo trivial;have aN:=Z.ne;have dd:=Z.ey;have c8:=Z.fq;have bb:=Z.bb;have bf:=Z.bf;have O:=bc G i;simp only[fG]at J U;have T:=qC dd c8 aN rfl;have z:∀H,ay H G.length=.cells 0 [.ref i 0 0]->ay H i=.cells 0 (fG j c d)->aM prog 307 [.sl false (d.m.cN.map gL),.func (.func 305) [] [.ref G.length 0 0]] H (.bool<|d.m.cN.any λs=>decide (s.n=c.n)):=
  λH h1 h2=>aId false d.m.cN (.func 305) [] [.ref G.length 0 0] (λs=>decide<|s.n=c.n) H (λs=>.mk (first:=[]) (λL=>Xq G.length (b3 h1 trivial L) (b3 h2 trivial L) s) aK)
 have s0:∀H,ay H G.length=.cells 0 [.ref i 0 0]->ay H i=.cells 0 (fG j c d)->aM prog 308 [.sl false (d.m.cd.map dn),.func (.func 306) [] [.ref G.length 0 0]] H (.bool<|d.m.cd.any λs=>decide (s.n=c.n)):=
  λH h1 h2=>aIe false d.m.cd (.func 306) [] [.ref G.length 0 0] (λs=>decide<|s.n=c.n) H (λs=>.mk (first:=[]) (λL=>WH G.length (b3 h1 trivial L) (b3 h2 trivial L) s) aK)
 simp only[fG]at z s0;unfold D6;have aAt:=hs.cN;have vF:=hs.cd;by_cases cH:(!(d.m.cN.any λs=>decide<|s.n=c.n)&& !(d.m.cd.any λw=>decide<|w.n=c.n))=true
 ·rw[aA cH];simp only[cV,sB]at cH;rw[cH.1]at z;rw[cH.2]at s0
  repeat' first|((first|refine hY (z _ (by simp only[go_sem,J,U,K,bb,bf,O,T,bc])<|by simp only[go_sem,J,U,K,bb,bf,O,T,bc]) aK ?_|refine kf (z _ (by simp only[go_sem,J,U,K,bb,bf,O,T,bc])<|by simp only[go_sem,J,U,K,bb,bf,O,T,bc]) aK ?_|refine kg (λ_=>z _ (by simp only[go_sem,J,U,K,bb,bf,O,T,bc])<|by simp only[go_sem,J,U,K,bb,bf,O,T,bc]) aK ?_|refine hY (s0 _ (by simp only[go_sem,J,U,K,bb,bf,O,T,bc])<|by simp only[go_sem,J,U,K,bb,bf,O,T,bc]) aK ?_|refine kf (s0 _ (by simp only[go_sem,J,U,K,bb,bf,O,T,bc])<|by simp only[go_sem,J,U,K,bb,bf,O,T,bc]) aK ?_|refine kg (λ_=>s0 _ (by simp only[go_sem,J,U,K,bb,bf,O,T,bc])<|by simp only[go_sem,J,U,K,bb,bf,O,T,bc]) aK ?_|refine mx [5,6] IQ ?_|refine ae ?_);simp only[go_sem,J,U,K,bb,bf,O,T,bc])|refine ao ?_|fail
  exact OT Z rfl _
 rw[aj cH];obtain⟨A,bZ⟩:∃A,d.m.cN.any (λs=>decide<|s.n=c.n)=A:=⟨_,rfl⟩
 obtain⟨B,bX⟩:∃B,d.m.cd.any (λs=>decide<|s.n=c.n)=B:=⟨_,rfl⟩
 rw[bZ,bX]at cH;rw[bZ]at z;rw[bX]at s0;have fin:∀n:Nat,n=n:=λ_=>rfl
 have k1:¬i=G.length:=iV
 cases A<;>cases B
 ·exact absurd rfl cH
 all_goals
  repeat' first|((first|refine hY (z _ (by simp only[go_sem,J,U,K,bb,bf,O,T,bc])<|by simp only[go_sem,J,U,K,bb,bf,O,T,bc]) aK ?_|refine kf (z _ (by simp only[go_sem,J,U,K,bb,bf,O,T,bc])<|by simp only[go_sem,J,U,K,bb,bf,O,T,bc]) aK ?_|refine kg (λ_=>z _ (by simp only[go_sem,J,U,K,bb,bf,O,T,bc])<|by simp only[go_sem,J,U,K,bb,bf,O,T,bc]) aK ?_|refine hY (s0 _ (by simp only[go_sem,J,U,K,bb,bf,O,T,bc])<|by simp only[go_sem,J,U,K,bb,bf,O,T,bc]) aK ?_|refine kf (s0 _ (by simp only[go_sem,J,U,K,bb,bf,O,T,bc])<|by simp only[go_sem,J,U,K,bb,bf,O,T,bc]) aK ?_|refine kg (λ_=>s0 _ (by simp only[go_sem,J,U,K,bb,bf,O,T,bc])<|by simp only[go_sem,J,U,K,bb,bf,O,T,bc]) aK ?_|refine mx [5,6] IQ ?_|refine ae ?_);simp only[go_sem,J,U,K,bb,bf,O,T,bc])|refine ao ?_|fail
  refine p6 (UY false d.m.cN iV _) aK ?_
  simp only[go_sem,J,U,K,bb,bf,O,T,bc];repeat' first|refine hH ?_|(refine bB ?_ ?_<;>intro h<;>try exact bA h)|fail
  refine p6 ((aIg d.m.cN (λs=>decide<|s.n=c.n) (G.length+1) 1 d.m.cN.length d.m.cN.length rfl (bd _) iV (λV=>ay V G.length=.cells 0 [.ref i 0 0]/\ay V i=.cells 0 (fG j c d)) (λV b h=>⟨bY h.1 iV b,bY h.2 iV b⟩) (λV L h=>⟨b3 h.1 trivial L,b3 h.2 trivial L⟩) _
   (fn:=.func 305) (fs:=[]) (cs:=[.ref G.length 0 0]) (by first|(simp only[go_sem,J,U,K,bb,bf,O,T,bc];done)|(simp only[go_sem,J,U,K,bb,bf,O,T,bc];rfl)) (λs V aL=>Or.inl ⟨aK,Xq G.length aL.1 aL.2 s⟩) ⟨(by first|(simp only[go_sem,J,U,K,bb,bf,O,T,bc];done)|(simp only[go_sem,J,U,K,bb,bf,O,T,bc];rfl)),(by first|(simp only[go_sem,J,U,K,bb,bf,O,T,bc];done)|(simp only[go_sem,J,U,K,bb,bf,O,T,bc];rfl))⟩).Td kk) aK ?_
  simp only[go_sem,J,U,K,bb,bf,O,T,bc];refine hH ?_;refine p6 (Nf false d.m.cd iV _) aK ?_
  simp only[go_sem,J,U,K,bb,bf,O,T,bc];repeat' first|refine hH ?_|(refine bB ?_ ?_<;>intro h<;>try exact bA h)|fail
  refine p6 ((aIh d.m.cd (λs=>decide<|s.n=c.n) (G.length+2) 1 d.m.cd.length d.m.cd.length rfl (bd _) iV (λV=>ay V G.length=.cells 0 [.ref i 0 0]/\ay V i=.cells 0 [.sl false (d.m.log.entries.map dv),.sl false<|d.m.log.nodes.map ba,.int .i64 d.m.seen,.int .i64 d.m.rep,.osl 2 (G.length+1) 1 0 (d.m.cN.filter λs=> !decide (s.n=c.n)).length d.m.cN.length,.sl false<|d.m.cd.map dn,.int .i64 d.m.next,
 .int .i64 d.a.err,.str d.a.data,.sl false<|d.a.names.map I.str,.int .i64 d.a.n,.sl false<|d.a.events.map c9,
 .int .i64 c.kind,.str c.path,.str c.to,.str c.data,.int .i64 c.n,.osl 7 j (d.ops.length+1) 0 d.ops.length d.ops.length]) (λV b h=>⟨bY h.1 iV b,bY h.2 iV b⟩) (λV L h=>⟨b3 h.1 trivial L,b3 h.2 trivial L⟩) _
   (fn:=.func 306) (fs:=[]) (cs:=[.ref G.length 0 0]) (by first|(simp only[go_sem,J,U,K,bb,bf,O,T,bc];done)|(simp only[go_sem,J,U,K,bb,bf,O,T,bc];rfl)) (λs V aL=>Or.inl ⟨aK,WH G.length aL.1 aL.2 s⟩) ⟨(by first|(simp only[go_sem,J,U,K,bb,bf,O,T,bc];done)|(simp only[go_sem,J,U,K,bb,bf,O,T,bc];rfl)),(by first|(simp only[go_sem,J,U,K,bb,bf,O,T,bc];done)|(simp only[go_sem,J,U,K,bb,bf,O,T,bc];rfl))⟩).Td (by simp[bc])) aK ?_
  simp only[go_sem,J,U,K,bb,bf,O,T,bc];refine hH ?_;refine JQ Z rfl rfl rfl ?_;unfold fG;repeat' first|exact fw|refine dj ?_ ?_|exact .cl _ (.int _ _)|exact .cl _ (.str _)|exact .cl _ (Gl _ _ _)|exact .cl _ (Gk _ _ _)|exact .cl _ (Gm _ _ _)|exact .cl _ (Gn _ _ _)|exact .cl _ (Gp _ _ _)|exact .cl _ (Gq _ _ _)|exact .cl _ (.osl _ _ _ _ _ _ c8)
  ·exact C3 iV (by first|(simp only[go_sem,J,U,K,bb,bf,O,T,bc];done)|(simp only[go_sem,J,U,K,bb,bf,O,T,bc];rfl)) rfl (λ_=>rfl) λx=>nb
  ·exact C3 iV (by first|(simp only[go_sem,J,U,K,bb,bf,O,T,bc];done)|(simp only[go_sem,J,U,K,bb,bf,O,T,bc];rfl)) rfl (λ_=>rfl) λx=>nb
end Go.Proofs.YtnmamncmpklliaaGreatDoor

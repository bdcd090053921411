/- What the functions of this seat answer (19 of 53). No condition. -/
import Derived.Test.YtnmamncmpklliaaGreatDoorWorkAN
import Derived.Test.YtnmamncmpklliaaGreatDoorWorkAO
import Derived.Test.YtnmamncmpklliaaGreatDoorWorkAP
set_option linter.unusedSimpArgs false
set_option linter.unusedVariables false
set_option linter.unusedSectionVars false
set_option maxRecDepth 100000
set_option maxHeartbeats 16000000
namespace Go.Proofs.YtnmamncmpklliaaGreatDoor
variable{G A:ab}{i n:Nat}{d':cn}{e:Int}{v:I}{o:aX}
open Go.Proofs.Tryz
theorem qC{j:Nat}(h1:i<G.length)(h2:j<G.length)(K:i<j)(af:G.length=n):
  (∀L X,ar (G++L) i X=ar G i X++L)/\(∀L X,ar (G++L) j X=ar G j X++L)/\(∀v X,ay (ar G i<|.cells v X) i=.cells v X)/\(∀v X L,ay (ar G i (.cells v X)++L) i=.cells v X)/\(∀X Y,ar (ar G i X) i Y=ar G i Y)/\
  (∀X Y L,ar (ar G i X++L) i Y=ar G i Y++L)/\(∀X Y,ar (ar G i X) j Y=ar (ar G j Y) i X)/\(∀X Y L,ar (ar G i X++L) j Y=ar (ar G j Y) i X++L)/\(∀v X Y L,ay (ar (ar G j Y) i (.cells v X)++L) i=.cells v X)/\
  (∀X v Y L,ay (ar (ar G j<|.cells v Y) i X++L) j=.cells v Y)/\(∀X Y Z L,ar (ar (ar G j Y) i X++L) i Z=ar (ar G j Y) i Z++L)/\(∀X Y Z L,ar (ar (ar G j Y) i X++L) j Z=ar (ar G j Z) i X++L)/\
  (∀X L,ay (ar G i X++L) n=L.getD 0 .gone)/\(∀X L k,ay (ar G i X++L) (n+k)=L.getD k .gone)/\(∀X Y L,ay (ar (ar G j Y) i X++L) n=L.getD 0 .gone)/\(∀X Y L k,ay (ar (ar G j Y) i X++L) (n+k)=L.getD k .gone)/\
  (∀X Y L,ar (ar G i X++L) n Y=ar G i X++L.set 0 Y)/\(∀X Y L k,ar (ar G i X++L) (n+k) Y=ar G i X++L.set k Y)/\(∀v Y L,ay (ar G j (.cells v Y)++L) j=.cells v Y)/\(∀X Y L,ar (ar G j Y++L) i X=ar (ar G j Y) i X++L)/\
  (∀L,ay (G++L) n=L.getD 0 .gone)/\(∀L k,ay (G++L) (n+k)=L.getD k .gone)/\(∀Y L,ar (G++L) n Y=G++L.set 0 Y)/\(∀Y L k,ar (G++L) (n+k) Y=G++L.set k Y):=by
 subst af;have J:∀X,(ar G i X).length=G.length:=λX=>bc _ _ _
 have fh:∀X Y,(ar (ar G j Y) i X).length=G.length:=λX Y=>by rw[bc,bc]
 have U:∀Y,(ar G j Y).length=G.length:=λX=>bc _ _ _
 have ne:j≠i:=iV
 refine⟨λL X=>hX h1 L X,λL X=>hX h2 L X,λv X=>dR h1 _,λv X L=>b3 (b:=.cells v X) (dR h1 _) trivial L,λX Y=>jS _ _ _ _,λX Y L=>?_,λX Y=>?_,λX Y L=>?_,λv X Y L=>?_,λX v Y L=>?_,λX Y Z L=>?_,λX Y Z L=>?_,
  λX L=>ur<|J X,λX L k=>?_,λX Y L=>ur<|fh X Y,λX Y L k=>?_,λX Y L=>Of (J X) Y,λX Y L k=>Jv (J X) Y,λv Y L=>b3 (b:=.cells v Y) (dR h2 _) trivial L,λX Y L=>hX (by rw[U];exact h1) L X,
  λL=>vY _ _,λL k=>F2 _ _ _,λY L=>Vf _ _ _,λY L k=>Oj _ _ _ _⟩
 ·rw[hX (by rw[J];exact h1),jS]
 ·rw[ub _ _ _ iV]
 ·rw[hX (by rw[J];exact h2),ub _ _ _ iV]
 ·exact b3 (b:=.cells v X) (dR (by rw[U];exact h1) _) trivial L
 ·exact b3 (b:=.cells v Y) (bY (dR h2 _) iV _) trivial L
 ·rw[hX (by rw[fh];exact h1),jS]
 ·rw[hX (by rw[fh];exact h2),ub (ar G j Y) _ _ iV,jS]
 ·rw[<-J X];exact F2 _ _ _
 ·rw[<-fh X Y];exact F2 _ _ _
theorem aWX(k:Nat)(l:List aX):∀x∈aS bh l,cM k x:=λx J=>(y4 (λx=>nb) l x J).cl k
def fG(j:Nat)(c:b8)(d:cn):List I:=
 [.sl false (d.m.log.entries.map dv),.sl false<|d.m.log.nodes.map ba,.int .i64 d.m.seen,.int .i64 d.m.rep,.sl false<|d.m.cN.map gL,.sl false<|d.m.cd.map dn,.int .i64 d.m.next,
  .int .i64 d.a.err,.str d.a.data,.sl false<|d.a.names.map I.str,.int .i64 d.a.n,.sl false<|d.a.events.map c9,
  .int .i64 c.kind,.str c.path,.str c.to,.str c.data,.int .i64 c.n,.osl 7 j (d.ops.length+1) 0 d.ops.length d.ops.length]
structure gE (i j:Nat) (c:b8) (d:cn) (G:ab):Prop where
 ne:i<j
 aO:ay G i=.cells 0 (fG j c d)
 bo:ay G j=.cells (d.ops.length+1) (aS bh d.ops)
def gw(G:ab)(i j:Nat)(c:b8)(d:cn):ab:=ar (ar G j (.cells (d.ops.length+1) (aS bh d.ops))) i<|.cells 0 (fG j c d)
theorem JO(G:ab)(i j:Nat)(c:b8)(d:cn):(gw G i j c d).length=G.length:=by unfold gw;rw[bc,bc]
section
variable {i j:Nat} {c:b8} {d:cn} {G:ab} (h:gE i j c d G)
include h
theorem gE.ey:i<G.length:=dk h.aO trivial
theorem gE.fq:j<G.length:=dk h.bo trivial
theorem gE.own:gw G i j c d=G:=by unfold gw;rw[lr h.bo trivial,lr h.aO trivial]
theorem gE.app(L:ab):gE i j c d (G++L):=⟨h.ne,b3 h.aO trivial L,b3 h.bo trivial L⟩
theorem gE.EM(d':cn)(L:ab):gw (G++L) i j c d'=gw G i j c d'++L:=by
 unfold gw;rw[hX h.fq,hX<|by rw[bc];exact h.ey]
theorem gE.put(d':cn):gE i j c d' (gw G i j c d'):=by
 have J:¬j=i:=by have:=h.ne;omega
 refine⟨h.ne,dR (by rw[bc];exact h.ey) _,?_⟩
 unfold gw;rw[ub _ _ _ J];exact dR (by rw[bc];exact h.fq) _
theorem gE.C8(d1 d2:cn):gw (gw G i j c d1) i j c d2=gw G i j c d2:=by
 have J:¬j=i:=by have:=h.ne;omega
 unfold gw;rw[ub (ar G j _) _ _ (λe=>J e.symm),jS,jS]
theorem gE.bb:∀X L,ay (ar G i X++L) j=.cells (d.ops.length+1) (aS bh d.ops):=λX L=>b3 (bY h.bo (by have:=h.ne;omega) X) trivial L
theorem gE.bf:∀X,ay (ar G i X) j=.cells (d.ops.length+1) (aS bh d.ops):=λX=>bY h.bo (by have:=h.ne;omega) X
theorem gE.one(J:d'.ops=d.ops):ar G i (.cells 0<|fG j c d')=gw G i j c d':=by
 unfold gw;rw[J,lr h.bo trivial]
end
theorem Gk(k:Nat)(b:Bool)(l:List aE):cM k (.sl b<|l.map ba):=(b6.sl b _ λx J=>by obtain⟨y, -,rfl⟩:=bJ.1 J;simp only[go_sem]).cl k
theorem Gl(k:Nat)(b:Bool)(l:List fu):cM k (.sl b<|l.map dv):=(b6.sl b _ λx J=>by obtain⟨y, -,rfl⟩:=bJ.1 J;simp only[go_sem]).cl k
theorem Gm(k:Nat)(b:Bool)(l:List Bw):cM k (.sl b<|l.map gL):=(b6.sl b _ λx J=>by obtain⟨y, -,rfl⟩:=bJ.1 J;simp only[go_sem]).cl k
theorem Gn(k:Nat)(b:Bool)(l:List oH):cM k (.sl b<|l.map dn):=(b6.sl b _ λx J=>by obtain⟨y, -,rfl⟩:=bJ.1 J;simp only[go_sem]).cl k
theorem Gp(k:Nat)(b:Bool)(l:List ag):cM k (.sl b<|l.map I.str):=(b6.sl b _ λx J=>by obtain⟨y, -,rfl⟩:=bJ.1 J;exact .str _).cl k
theorem Gq(k:Nat)(b:Bool)(l:List eb):cM k (.sl b<|l.map c9):=(b6.sl b _ λx J=>by obtain⟨y, -,rfl⟩:=bJ.1 J;simp only[c9,go_sem]).cl k
theorem aLR{j:Nat}(U:j<n)(c:b8)(d:cn):ep n (.cells 0<|fG j c d):=λx J=>by
 simp only[fG,cU,lj,lk]at J;rcases J with rfl|rfl|rfl|rfl|rfl|rfl|rfl|rfl|rfl|rfl|rfl|rfl|rfl|rfl|rfl|rfl|rfl|rfl;all_goals first|exact .int _ _|exact .str _|exact Gl _ _ _|exact Gk _ _ _|exact Gm _ _ _|exact Gn _ _ _|exact Gp _ _ _|exact Gq _ _ _|exact .osl _ _ _ _ _ _ U
theorem uB{j:Nat}{c:b8}{d:cn}{L:ab}(h:gE i j c d G)(J:v=.int .i64 e)(U:A=gw G i j c d'):
  ∃H1 K y,A++L=H1++K/\H1.length=G.length/\(∀(k:Nat) (b:bE),H1[k]?=some b->G[k]?=some b\/ep G.length b)/\cL G.length (A++L) v y/\(y=.int .i64 e/\H1=gw G i j c d'):=by
 subst J;subst U;refine⟨_,L,_,rfl,JO _ _ _ _ _,λk b hk=>?_,.cl _<|.int _ _,rfl,rfl⟩
 unfold gw at hk;rcases pn (aLR h.fq c d') k b hk with hk|hk
 ·exact pn (KD (enc:=bh) (λx=>nb) G.length (d'.ops.length+1) d'.ops) k b hk
 ·exact .inr hk
theorem jT{j:Nat}{c:b8}{d:cn}(h:gE i j c d G)(J:v=.int .i64 e)(U:A=gw G i j c d'):
  ∃H1 K y,A=H1++K/\H1.length=G.length/\(∀(k:Nat) (b:bE),H1[k]?=some b->G[k]?=some b\/ep G.length b)/\cL G.length A v y/\(y=.int .i64 e/\H1=gw G i j c d'):=by
 have:=uB (L:=[]) h J U;rwa[cA]at this
def sw(P:Program)(f:FuncId)(i j:Nat)(c:b8)(r:Int×cn)(G:ab):Prop:=dp P f [.ref i 0 0] G (λv H'=>v=.int .i64 r.1/\H'=gw G i j c r.2)
def GR(o:Option (List aE)):I:=match o with
 |none=>.aQ [.sl true [],.int .i64 191]
 |some l=>.aQ [.sl false (l.map ba),.int .i64 0]
def Ea(r:Int×ag×Int):I:=.aQ [.int .i64 r.1,.str r.2.1,.int .i64 r.2.2]
structure oD (m:c0):Prop where
 nodes:m.log.nodes.length<=1000000
 cZ:m.log.entries.length<=1000000
 ops:∀e∈m.log.entries,hD e.op
 cN:m.cN.length<=1000000
 cd:m.cd.length<=1000000
 snap:∀s∈m.cN,s.nodes.length<=1000000
 bV:∀w∈m.cd,w.bV.length<=1000000
def M1:List cu:=[.free,.pure 0,.pure 0,.pure 0,.pure 0,.free,.pure 0,.pure 0,.pure 0,.pure 0,.pure 0,.free,.free,.free,.eff [true,true,true,true,true,true,true,true,true],.eff [false,false,false,false,false,false,false,false,false],.free]
def Tm:List cu:=[.free,.pure 0,.pure 0,.pure 0,.pure 0,.pure 0,.pure 0,.free,.free,.free,.eff [true,true,true,true,true,true],.eff [false,false,false,false,false,false],.free]
def Tn:List cu:=[.free,.free,.pure 0,.pure 0,.pure 0,.pure 0,.free,.eff [true,false,true,true],.pure 0,.pure 0,.eff [false,true,false,false,false]]
attribute [go_sem] M1 Tm Tn
theorem Eb(b:Bool)(l:List aE)(p:ag)(hl:l.length<=1073741824)(ad:p.length<=1048576)(H:ab):aM prog 300 [.sl b (l.map ba),.str p] H (uL<|fi l p):=by
 refine aZ func300 ?_;have hs:=Gj p ad;unfold fi;cases af:gB p with
 |none=>
  simp only[ly,af]at hs;repeat' first|(refine ae ?_;simp only[go_sem])|refine ao ?_|fail
  exact bD<|.refl _
 |some J=>
  simp only[ly,af]at hs;have U:=JN b (decide<|p=[47]) l J hl;simp only[uL]at U;repeat' first|(refine ae ?_;simp only[go_sem])|refine ao ?_|fail
  exact bD<|.refl _
theorem Yy(b:Bool)(l:List aE)(p:ag)(hl:l.length<=1073741824)(ad:p.length<=1048576)(H:ab):aM prog 295 [.sl b (l.map ba),.str p] H (Ea<|iQ l p):=by
 refine aZ func295 ?_;have hs:=Gj p ad;unfold iQ;cases af:gB p with
 |none=>
  simp only[ly,af]at hs;repeat' first|(refine ae ?_;simp only[go_sem])|refine ao ?_|fail
  exact bD<|.refl _
 |some z=>
  simp only[ly,af]at hs;cases z with
  |nil=>
   repeat' first|(refine ae ?_;simp only[go_sem])|refine ao ?_|fail
   exact bD<|.refl _
  |cons x xs=>
   have hlen:=IP af;rw[cg]at hlen;have hw:IntKind.i64.wrap (((xs.length+1:Nat):Int)-1)=(xs.length:Int):=by rw[bI];omega
   have O:((0:Int)<=(xs.length:Int)/\(xs.length:Int)<=((xs.length+1:Nat):Int))=True:=b5 iV
   have hd:decide (((xs.length+1:Nat):Int)=0)=false:=cQ;have T:(I.str x::xs.map I.str).getD xs.length .top=.str ((x::xs).getLast kk):=by
    rw[<-dz (f:=I.str),di I.str kk,List.getLast_eq_getElem];simp
   have V:xs.length<xs.length+1:=Nat.lt_succ_self _;have ah:List.take xs.length (I.str x::xs.map I.str)=((x::xs).dropLast).map I.str:=by
    rw[<-dz (f:=I.str),<-rI,Gb];rfl
   obtain⟨⟨dir,e⟩,J⟩:∃r,fp l (x::xs).dropLast=r:=⟨_,rfl⟩;have U:=λf=>JN b f l (x::xs).dropLast hl
   simp only[uL,J]at U;have Z:=uV dir;by_cases he:e=0
   ·subst he;simp only;cases K:dm dir with
    |true=>
     rw[K]at Z;repeat' first|((first|refine cx (U _) ?_|refine ae ?_);simp only[go_sem,hw,O,hd,T,V,ah])|refine ao ?_|fail
     exact bD<|.of (by simp[Ea,J,K])
    |false=>
     rw[K]at Z;repeat' first|((first|refine cx (U _) ?_|refine ae ?_);simp only[go_sem,hw,O,hd,T,V,ah])|refine ao ?_|fail
     exact bD<|.of (by simp[Ea,J,K])
   ·have vB:decide (e=0)=false:=bN he;simp only;repeat' first|((first|refine cx (U _) ?_|refine ae ?_);simp only[go_sem,hw,O,hd,T,V,ah,vB])|refine ao ?_|fail
    exact bD<|.of (by simp[Ea,J,he])
theorem W8(m:c0)(n:Int)(i:Nat)(cs:List I)(hm:m.cN.length<=1000000)(H:ab)(K:ay H i=.cells 0 (.sl false (m.log.entries.map dv)::.sl false (m.log.nodes.map ba)::.int .i64 m.seen::.int .i64 m.rep::.sl false (m.cN.map gL)::cs)):
  aM prog 301 [.ref i 0 0,.int .i64 n] H (GR<|qv m n):=by
 refine aZ func301 ?_;unfold qv;by_cases aw:n=0
 ·have hd:decide (n=0)=true:=cD aw;rw[aA aw];repeat' first|(refine ae ?_;simp only[go_sem,K,hd])|refine ao ?_|fail
  exact bD<|.refl _
 have hd:decide (n=0)=false:=bN aw;rw[aj aw];have h1:=bC K trivial;repeat' first|(refine ae ?_;simp only[go_sem,K,hd])|refine ao ?_|fail
 refine cE (ι:=Nat×ab) (λs=>[(1,.int .i64 n),(20,.sl false<|m.cN.map gL),(21,.int .i64 m.cN.length),(22,.int .i64 s.1)]) (λs=>H++s.2) (λs=>s.1<=m.cN.length/\∀q (hk:q<s.1) (V:q<m.cN.length),decide (m.cN[q].n=n)=false) (λs=>m.cN.length-s.1) (0,[]) ⟨bW _,λq hk=>by simp only at hk;omega⟩ ?_ (cA _).symm ?_
 ·simp[go_sem]
 rintro⟨k,L⟩ ⟨hk,U⟩;simp only at hk U ⊢;generalize aW:H++L=G;by_cases J:k<m.cN.length
 ·have ad:=di gL J;repeat' first|(refine ae ?_;simp only[go_sem,ad,gL,J])|refine bt ?_|(refine bB ?_ ?_<;>intro h<;>try exact bA h)|fail
  ·have O:m.cN.find? (λs=>decide<|s.n=n)=some m.cN[k]:=by
    rw[List.find?_eq_some_iff_getElem];exact⟨by assumption,k,J,rfl,λq aJ=>by rw[U q aJ iV];rfl⟩
   rw[O];exact BB aW nb<|.refl _
  ·refine⟨(k+1,L++[.cells 0 (gL m.cN[k]).cells]),⟨J,λq aJ T=>?_⟩,by simp only;omega,bU _<|dA J iV,?_⟩
   ·by_cases e:q=k
    ·subst e;simpa using h
    ·have:=U q (by simp only at aJ;omega) T;simpa using this
   ·show G++[.cells 0 (gL m.cN[k]).cells]=_;rw[<-aW,dr]
 ·have Z:k=m.cN.length:=iV
  have O:m.cN.find? (λs=>decide<|s.n=n)=none:=by
   rw[wF];intro s hs;obtain⟨q,aJ,rfl⟩:=List.mem_iff_getElem.1 hs;rw[U q iV aJ];simp
  rw[O];repeat' first|(refine ae ?_;simp only[go_sem,J])|refine ao ?_|fail
  exact KI aW nb<|.refl _
theorem OQ(j:Nat)(c:b8)(d:cn)(i:Nat)(hm:d.m.log.entries.length<=1000000)(H:ab)(J:ay H i=.cells 0 (fG j c d)):
  aM prog 297 [.ref i 0 0] H (.aQ [C6 (gv d.m).1,.int .i64 (gv d.m).2]):=by
 refine aZ func297 ?_;have h1:=bC J trivial;have af:=aKi d.m.seen d.m.rep;simp only[fG]at J h1;unfold gv;unfold Ps at af;cases U:xK d.m.seen d.m.rep with
 |false=>
  rw[U,aj kk]at af
  rw[aA rfl];repeat' first|((first|refine mx [1] M1 ?_|refine ae ?_);simp only[go_sem,J,h1])|refine ao ?_|fail
  exact aV<|.refl _
 |true=>
  rw[U,aA rfl]at af;rw[aj kk]
  by_cases hl:(200:Int)<=(d.m.log.entries.length:Int)
  ·have hd:decide ((200:Int)<=(d.m.log.entries.length:Int))=true:=cD hl;rw[aA hl];repeat' first|((first|refine mx [1] M1 ?_|refine ae ?_);simp only[go_sem,J,h1,hd])|refine ao ?_|fail
   exact aV<|.refl _
  ·have hd:decide ((200:Int)<=(d.m.log.entries.length:Int))=false:=bN hl;rw[aj hl];repeat' first|((first|refine mx [1] M1 ?_|refine ae ?_);simp only[go_sem,J,h1,hd])|refine ao ?_|fail
   exact aV<|.refl _
theorem XU{j:Nat}{c:b8}{d:cn}(J:gE i j c d G)(hs:oD d.m)(Z:hD o)(hl:d.ops.length<=1000000):
  dp prog 316 [.ref i 0 0,bh o] G (λv H'=>v=.int .i64 (ox d o).1/\H'=gw G i j c (ox d o).2):=by
 refine jw func316 ?_;have hm:=YO false false d.m.log o Z hs.ops hs.nodes hs.cZ;have U:=J.aO;have K:=bC J.aO trivial;have O:=bC J.bo trivial;have z:=J.ne;have dd:=J.ey;have c8:=J.fq;have bb:=J.bb;have bf:=J.bf;have T:=bc G i;simp only[fG]at U K;have V:=qC dd c8 z rfl;simp only[BX,CQ,om,bh]at hm;unfold ox;by_cases he:nR d.m.log o=0
 ·rw[aA he];rw[he]at hm;have j0:(∀e,e=I.agg [.int .i64 o.at_.c,.int .i64 o.at_.r,.int .i64 o.kind,.int .i64 o.node,.int .i64 o.parent,.str o.name,.str o.data]->e.cells.length=7)=True:=b5 λe he=>by rw[he];rfl
  have jD:((d.ops.length+1) * 72<=140737488355328)=True:=b5 iV
  have dH:=ej (enc:=bh) (s:=7) (λ_=>rfl) d.ops
  repeat' first|((first|refine mx [1] Tm ?_|refine mx [5] Tn ?_|refine ae ?_);simp only[go_sem,bh,U,K,O,bb,bf,T,V,bc,j0,jD,dH])|refine ao ?_|fail
  refine uB J rfl ?_;unfold gw fG;simp[iR,q1,JK,bh,I.cells]
 ·have hd:decide (nR d.m.log o=0)=false:=bN he;rw[aj he];repeat' first|((first|refine mx [1] Tm ?_|refine mx [5] Tn ?_|refine ae ?_);simp only[go_sem,bh,U,K,O,bb,bf,T,V,bc,hd])|refine ao ?_|fail
  exact uB J rfl J.own.symm
theorem Kq{j:Nat}{c:b8}{d:cn}(U:gE i j c d G)(hs:oD d.m)(aD:hD o)(hl:d.ops.length<=1000000):
  dp prog 299 [.ref i 0 0,bh o] G (λv H'=>v=.int .i64 (sS d o).1/\H'=gw G i j c (sS d o).2):=by
 refine jw func299 ?_;have T:=U.aO;have V:=bC U.aO trivial;have z:=bC U.bo trivial;have aN:=U.ne;have dd:=U.ey;have c8:=U.fq;have bb:=U.bb;have bf:=U.bf;have b7:=bc G i;simp only[fG]at T V;have bG:=qC dd c8 aN rfl;unfold sS;obtain⟨s,e,af⟩:∃s e,gv d.m=(s,e):=⟨_,_,rfl⟩;simp only[af];have O:=λL=>OQ j c d i (by have:=hs.cZ;omega) (G++L) (U.app L).aO
 simp only[af,C6]at O;by_cases he:e=0
 ·subst he;rw[aA rfl];repeat' first|((first|refine hY (O _) aK ?_|refine kf (O _) aK ?_|refine kg (λ_=>O _) aK ?_|refine ae ?_);simp only[go_sem,bh])|refine ao ?_|fail
  obtain⟨L,hp⟩:∃L:ab,L=[.cells 0 [.int .i64 s.c,.int .i64 s.r,.int .i64 o.kind,.int .i64 o.node,.int .i64 o.parent,.str o.name,.str o.data],.cells 0 [.int .i64 s.c,.int .i64 s.r]]:=⟨_,rfl⟩;rw[<-hp];refine dU (XU (U.app L) hs (o:={o with at_:=s}) aD hl) aK ?_
  rintro v H' ⟨rfl,rfl⟩;rw[U.EM];obtain⟨⟨x,d1⟩,az⟩:∃r,ox d {o with at_:=s}=r:=⟨_,rfl⟩
  rw[az];simp only;obtain⟨Z,I⟩:∃Z,gw G i j c d1=Z:=⟨_,rfl⟩;have K:gE i j c d1 Z:=I▸U.put d1;have Cf:Z.length=G.length:=by rw[<-I,JO]
  have vS:∀d2,gw Z i j c d2=gw G i j c d2:=λd2=>by rw[<-I,U.C8]
  rw[I,hp];have T:=K.aO;have V:=bC K.aO trivial;have z:=bC K.bo trivial;have aN:=K.ne;have dd:=K.ey;have c8:=K.fq;have bb:=K.bb;have bf:=K.bf;have b7:=Cf;simp only[fG]at T V;have bG:=qC dd c8 aN Cf;simp only[go_sem];by_cases J:x=0
  ·subst J;rw[aA rfl];repeat' first|(refine ae ?_;simp only[go_sem,T,V,z,bb,bf,b7,bG,bc])|refine ao ?_|fail
   refine uB U rfl ?_;rw[<-vS];exact K.one (d':={d1 with m:={d1.m with seen:=s.c}}) rfl
  ·have hd:decide (x=0)=false:=bN J;rw[aj J];repeat' first|(refine ae ?_;simp only[go_sem,T,V,z,bb,bf,b7,bG,bc,hd])|refine ao ?_|fail
   exact uB U rfl I.symm
 ·rw[aj he];have hd:decide (e=0)=false:=bN he;repeat' first|((first|refine hY (O _) aK ?_|refine kf (O _) aK ?_|refine kg (λ_=>O _) aK ?_|refine ae ?_);simp only[go_sem,bh,hd])|refine ao ?_|fail
  exact uB U rfl U.own.symm
end Go.Proofs.YtnmamncmpklliaaGreatDoor

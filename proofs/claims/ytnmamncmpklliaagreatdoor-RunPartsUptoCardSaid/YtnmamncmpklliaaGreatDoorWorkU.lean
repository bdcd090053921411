/- What functions answer. No condition. -/
import Derived.Test.YtnmamncmpklliaaGreatDoorWorkT
set_option linter.unusedSimpArgs false
set_option linter.unusedVariables false
set_option maxRecDepth 100000
set_option maxHeartbeats 16000000
namespace Go.Proofs.YtnmamncmpklliaaGreatDoor
variable{n who r s m:Int}{i k j q:Nat}{H G:ab}{t:bF}{x:bM}{u:fk}{o:Ord}{T:al}
open Go.Proofs.Tryz
def NB:List cK:=[.aQ,.aQ,.ah 0,.ah 0,.ah 0,.ah 0,.ah 0,.ah 0,.aQ,.ah 0,.ah 0,.ah 0,.ah 0,.aQ,.ah 0,.ah 0,.ah 0,.ah 0,.ah 0,.bW [false,true]]
def NC:List cK:=[.bW [],.aQ,.ah 1,.ah 1,.ah 1,.ah 1,.ah 0,.aQ,.aQ,.aQ,.aQ,.aQ]
attribute [go_sem] NB NC
def lD:List (I×I×Nat):=[(.int .i64 1,.func (.func 171) [] [],0),(.int .i64 2,.func (.func 172) [] [],1),(.int .i64 3,.func (.func 173) [] [],2),(.int .i64 4,.func (.func 174) [] [],3),(.int .i64 5,.func (.func 175) [] [],4)]
theorem GN(n:Nat):iV (.int .i64) (lD.take n):=by intro x J;have:=yp J;simp only[lD,db,mh,mj]at this;rcases this with rfl|rfl|rfl|rfl|rfl<;>trivial
theorem aH9(H:ab):cV prog 120 [] H (λv H'=>v=.map H.length/\H'=H++[.map lD 5]):=by
 refine uf func120 ?_;have ax:hG (I.int .i64 1) (.func (.func 171) [] []) [] 0=lD.take 1:=rfl;have K:hG (I.int .i64 2) (.func (.func 172) [] []) (lD.take 1) 1=lD.take 2:=rfl;have aU:hG (I.int .i64 3) (.func (.func 173) [] []) (lD.take 2) 2=lD.take 3:=rfl;have bf:hG (I.int .i64 4) (.func (.func 174) [] []) (lD.take 3) 3=lD.take 4:=rfl;have O:hG (I.int .i64 5) (.func (.func 175) [] []) (lD.take 4) 4=lD:=rfl;have c1:qS (I.int .i64 1) [] 0=1:=rfl;have c2:qS (I.int .i64 2) (lD.take 1) 1=2:=rfl;have S:qS (I.int .i64 3) (lD.take 2) 2=3:=rfl;have V:qS (I.int .i64 4) (lD.take 3) 3=4:=rfl;have Z:qS (I.int .i64 5) (lD.take 4) 4=5:=rfl;refine hH ?_;refine⟨GN 0,GN 1,GN 2,GN 3,GN 4,?_⟩;refine a7 ?_;refine⟨_,[],_,(cE _).symm,hW,G1 λb J=>?_,.cl _<|.map _ hW,rfl,rfl⟩
 rw[dH]at J;subst J;intro p ad;simp only[lD,db,mh,mj]at ad;have U:∀(n:Nat) (f:FuncId),cN n (.func (.func f) [] []):=λn f=>.func _ _ _ (λ_ _ h=>by simp at h) λ_ _ h=>by simp at h
 rcases ad with rfl|rfl|rfl|rfl|rfl<;>exact⟨.int _ _,U _ _⟩
theorem aJG{n v lc:Nat}{cs:List I}(D:List bF)(af:n<=i)(J:az H i=.cells v cs)(U:cs=aV aZ D)(hk:D.length=k):cJ n H (.osl 18 i v 0 k lc) (.sl false<|D.map aZ):=
 q8 (es:=D.map aZ) (rest:=[]) af J (U.trans (cE _).symm) (by rw[dq,hk]) (λe he=>by(obtain⟨x, -,rfl⟩:=bP.1 he;rfl)) (λe he=>by(obtain⟨x, -,rfl⟩:=bP.1 he;simp only[go_sem]))
theorem aLm{l:List bF}(h:l[k]?=some t):List.take 18 (List.drop (k * 18)<|aV aZ l)=(aZ t).cells:=by obtain⟨hk,e⟩:=cu.1 h;have:=LL (enc:=aZ) (s:=18) (λ_=>rfl) hk [];rw[cE,e]at this;exact this
theorem aJH{v:fk}(h:hr i j who v x G)(u:fk):hr i j who u x (an G i<|.cells 0 (fc j who u x)):=⟨h.ne,dK h.eV _,bN h.bA (oC h.ne) _⟩
theorem VH{y:bM}(J:hr i j who u x G)(af:y.aE.length=x.aE.length)(h1:H.length+1<i)(ad:∀k,k<H.length->az G k=az H k)(X:bD):
  ∃L z,an (fb G i j who u y) (H.length+1) X=H++L/\cJ H.length (an (fb G i j who u y) (H.length+1) X) (lx (.sl false<|y.m.log.entries.map dT) (.sl false<|y.m.log.nodes.map bj) (.sl false<|y.m.dh.map jj) (.sl false<|y.m.cq.map dY) (.sl false<|y.t.held.map bB) (.sl false<|y.t.waits.map bB) (.sl false<|y.g.waits.map dR) (.osl 18 j 1 0 y.aE.length y.aE.length) (.sl false<|y.ops.map bt) y) z/\z=nM y:=by
 have O:=J.ne;have S:=J.eV;have V:=J.fF;have U:=(J.put y).bA;obtain⟨L,K⟩:=Lz (H:=H) (H':=an (fb G i j who u y) (H.length+1) X) (by rw[bc,Bh];omega) λk hk=>by have:=ad k hk;unfold fb an;simp only[az,gg]at this ⊢;rw[gS gf,gS gf,gS gf];exact this
 refine⟨L,_,K,YV false false false false false false false false y<|aJG y.aE gf (v:=1) (cs:=aV aZ y.aE) ?_ rfl rfl,rfl⟩
 exact bN U gf _
theorem aIa(h:sN t)(k:Int):sN (dE t ⟨2,k⟩):=by obtain⟨ax,J, -, -, -,aU, -⟩:=JJ t k;obtain⟨h1,h2,h3⟩:=h;unfold sN;rw[ax,J,aU];exact⟨h1,e1 (o1 _ _) h2,h3⟩
theorem aJI{who:Nat}(U:hr i j who u x G)(b:jV q x)(aM:q<=100000)(ag:x.aE[who]?=some t)(he:t.ended=false)(hu:fX x.m.log.nodes t=u):
  ∃(c:Nat) (f:FuncId),eJ (.int .i64 u.kind) lD=some (c,.func (.func f) [] [])/\jr prog f=true/\sO prog f [] i j who u (tC who t u x) G:=by
 have K:=Ya x.m.log.nodes he;have J:=b.Q7 aM;rw[hu]at K;obtain⟨a,k⟩:=u;simp only at K;unfold tC;simp only;rcases K with rfl|rfl|h|rfl|rfl
 ·rw[aC rfl];exact⟨_,_,rfl,aI,aKa U J ag rfl⟩
 ·rw[ar ko,aC rfl];exact⟨_,_,rfl,aI,aKb U J (tk J.wK λt _ h=>aIa h k) ag rfl⟩
 ·cases h;rw[ar ko,ar ko,aC rfl];have O:=(QG b.ci.iX b.ll t.call).1;exact⟨_,_,rfl,aI,aLf U J b.ci.iX ag (b.ci.cs t<|dy ag) rfl (by have:=b.ci.ops;have:=b.ci.iX.cap;omega) ⟨e1 O.nl ko,e1 O.el ko⟩ λ_ _=>b.vD aM ag⟩
 ·rw[ar ko,ar ko,ar ko,aC rfl];exact⟨_,_,rfl,aI,aKc U J ag⟩
 ·obtain⟨rfl, -⟩:=Xg hu;rw[ar ko,ar ko,ar ko,ar ko,aC rfl];exact⟨_,_,rfl,aI,aIv U J ag rfl⟩
theorem aJJ(x:bM)(p:Int)(full:Bool)(b:jV q x)(aM:q<=100000)(H:ab):aO prog 70 [nM x,.int .i64 p,.bool full] H (nM<|mJ x p full):=by
 refine bg func70 ?_;have af:=b.ci.n;have S:=XB false false false false false false false false false x p gf;unfold LK at S;unfold mJ;simp only[nM,jk,lx]at S ⊢;cases hw:wL x p with
 |none=>
  rw[hw]at S;simp only at S;repeat' first|((first|refine mx [10] NB ?_|refine mx [11] NC ?_|refine ae ?_);simp only[go_sem])|refine ai ?_|fail
  exact aX<|.refl _
 |some who=>
  rw[hw]at S;simp only at S;repeat' first|((first|refine mx [10] NB ?_|refine mx [11] NC ?_|refine ae ?_);simp only[go_sem])|refine ai ?_|fail
  refine c4 (VF false x.aE gf _) aI ?_;rintro v H' ⟨rfl,rfl⟩;simp only[go_sem];obtain⟨t,ag,he,l3, -⟩:=P1<|Pc hw;have uH:=(cu.1 ag).1;repeat' first|(refine ae ?_;simp only[go_sem])|refine bp ?_|fail
  obtain⟨y,K⟩:∃y,BZ x=y:=⟨_,rfl⟩;have O:y.aE=x.aE:=by rw[<-K];rfl
  have U:jV q y:=by rw[<-K];exact b.tick
  obtain⟨G,a7⟩:∃G,H++[.cells 0 (nM x).cells,.cells 0 (jk true true true true true true true true true yO).cells,.cells 0<|fc (H.length+3) who ⟨0,0⟩ (BZ x),.cells 1<|aV aZ x.aE]=G:=⟨_,rfl⟩;have J:hr (H.length+2) (H.length+3) who ⟨0,0⟩ y G:=⟨gf,by rw[<-a7,<-K];simp only[go_sem],by rw[<-a7,O];simp only[go_sem]⟩
  have ad:∀k,k<H.length->az G k=az H k:=λk hk=>by rw[<-a7];simp only[az,gg];rw[jc hk]
  have a1:az G (H.length+1)=.cells 0 (jk true true true true true true true true true yO).cells:=by rw[<-a7];simp only[go_sem]
  simp only[nM,jk,lx,I.cells,fc,BZ,yO,xW,aAI,Kg,jm]at a7 a1;rw[a7];refine kA rfl (λh=>?_) (λh=>?_)
  ·have aP:iC x.g who=true:=h;have fO:iC y.g who=true:=by rw[<-K];exact aP
   have vU:AF full who x=qi full who y:=by unfold AF;rw[aC aP,K]
   have q0:sO prog 118 [.bool full] (H.length+2) (H.length+3) who ⟨0,0⟩ (qi full who y) G:=by
    cases full with
    |true=>exact aIx J (U.Q7 aM)<|by rw[O];exact ag
    |false=>exact aIy J (U.Q7 aM) (by have:=U.ci.ops;have:=U.ci.iX.cap;omega)
   have Z:(qi full who y).aE.length=y.aE.length:=by have:=(VZ U.ci who full fO).aE.1;exact this
   rw[vU];obtain⟨z,Jy⟩:∃z,qi full who y=z:=⟨_,rfl⟩;rw[Jy]at q0 Z ⊢;repeat' first|(refine ae ?_;simp only[go_sem])|refine ai ?_|fail
   refine c4 q0 aI ?_;rintro v H' ⟨rfl,rfl⟩;have c1:=(J.put z).aW;have c2:az (fb G (H.length+2) (H.length+3) who ⟨0,0⟩ z) (H.length+1)=_:=(bN (bN a1 (show ¬H.length+3=H.length+1 by omega) _) (show ¬H.length+2=H.length+1 by omega) _)
   have iw:=λX=>dK (H:=fb G (H.length+2) (H.length+3) who ⟨0,0⟩ z) (i:=H.length+1) (by have:=J.eV;rw[Bh];omega)<|bD.cells 0 X
   simp only[fc]at c1;repeat' first|(refine ae ?_;simp only[go_sem,c1,c2,iw])|refine ai ?_|fail
   have he:=VH J Z gf ad;simp only[lx]at he;exact he _
  ·have aP:iC x.g who=false:=by cases e:iC x.g who with
    |false=>rfl
    |true=>rw[e]at h;cases h
   have hn:=b.ci.cs t<|dy ag;have nv:=aJi false false false false y.m.log.nodes t hn.path hn.to (oC U.ci.iX.nodes.len)
   obtain⟨u,hu⟩:∃u,fX y.m.log.nodes t=u:=⟨_,rfl⟩;rw[hu]at nv;simp only[iJ,kT,ru]at nv;have fC:=aLm (l:=y.aE)<|by rw[O];exact ag
   simp only[aZ,I.cells]at fC;have ig:=en (enc:=aZ) (s:=18) (λ_=>rfl) y.aE;have fO:((0:Int)<=(who:Int)/\(who:Int)<(y.aE.length:Int))=True:=b1 ⟨gf,by rw[O];omega⟩
   have gl:(who * 18+18<=y.aE.length * 18)=True:=b1<|by rw[O];omega
   have bd:=J.aW;have aS:=bE J.aW trivial;have aY:=J.bA;have ks:=bE J.bA trivial;have a6:=J.a6;have bb:=J.bb;have dm:=J.dm;have ey:=J.ey;simp only[fc]at bd aS dm ey;have bI:=uZ J.eV J.fF J.ne;repeat' first|((first|refine mx [10] NB ?_|refine mx [11] NC ?_|refine ae ?_);simp only[go_sem,bd,aS,aY,a6,bb,dm,ey,ks,bI,bc,fC,ig,fO,gl])|refine ai ?_|fail
   obtain⟨V,eN⟩:∃V,an G (H.length+2) (.cells 0<|fc (H.length+3) who u y)=V:=⟨_,rfl⟩;have e9:=aJH J u;have uC:∀k,k<H.length->az V k=az H k:=λk hk=>by rw[<-ad k hk,<-eN];simp only[az,an,gg];rw[gS gf]
   have F7:=bN a1 (show ¬H.length+2=H.length+1 by omega)<|.cells 0 (fc (H.length+3) who u y)
   rw[eN]at e9 F7;simp only[fc]at eN;rw[eN];refine qj (aH9 _) aI ?_;have aL:=bE e9.aW trivial;have aR:=e9.aW;simp only[fc]at aL aR;simp only[go_sem,aL,aR];have hz:=e9.app [.map lD 5];obtain⟨c,oG,k1,k2,k3⟩:=aJI hz U aM (by rw[O];exact ag) he hu
   have aYt:iV (.int .i64) lD:=GN 5;have vU:AF full who x=tC who t u y:=by
    unfold AF;rw[ar (by rw[aP];decide),K,gg,ag,<-hu,<-K]
    rfl
   have Z:(tC who t u y).aE.length=y.aE.length:=by rw[<-hu];exact(V0 U.ci (by rw[O];exact ag) he).aE.1
   rw[vU];obtain⟨z,Jy⟩:∃z,tC who t u y=z:=⟨_,rfl⟩;rw[Jy]at k3 Z ⊢;have SP:=bE F7 trivial [.map lD 5];have zb:∀k,k<H.length->az (V++[.map lD 5]) k=az H k:=λk hk=>by rw[<-uC k hk];have:=e9.eV;simp only[az,gg];rw[jc gf]
   refine hH ?_;refine c4 k3 k2 ?_;rintro v H' ⟨rfl,rfl⟩;have c1:=(hz.put z).aW;have c2:az (fb (V++[.map lD 5]) (H.length+2) (H.length+3) who u z) (H.length+1)=_:=(bN (bN SP (show ¬H.length+3=H.length+1 by omega) _) (show ¬H.length+2=H.length+1 by omega) _)
   have iw:=λX=>dK (H:=fb (V++[.map lD 5]) (H.length+2) (H.length+3) who u z) (i:=H.length+1) (by have:=hz.eV;rw[Bh];omega)<|bD.cells 0 X
   simp only[fc]at c1;repeat' first|(refine ae ?_;simp only[go_sem,c1,c2,iw])|refine ai ?_|fail
   have he:=VH hz Z gf zb;simp only[lx]at he;exact he _
def u1:cj->List bk->cj
 |w,[]=>w
 |w,o::l=>if(rz w o).2=0 then u1 (rz w o).1 l else w
def zZ(d:eR)(p:Int):eR:=match wL d.c p with
 |none=>d
 |some who=>
  if iC d.c.g who=true then{d with c:=mJ d.c p<|!decide ((u0 d.w d.c.ops).2=0),w:=(u0 d.w d.c.ops).1}
  else⟨mJ d.c p false,u1 d.w<|(mJ d.c p false).ops.drop (min (max d.Kb 0) ((mJ d.c p false).ops.length:Int)).toNat,(mJ d.c p false).ops.length⟩
theorem aIb{w:cj}{o:bk}(h:(rz w o).2≠0):(rz w o).1=w:=by
 unfold rz at h ⊢;split
 ·rfl
 ·rename_i h1;rw[ar h1]at h;simp only at h ⊢;split
  ·rfl
  ·rename_i h2;rw[ar h2]at h;exact absurd rfl h
theorem gq.aCP:∀(l:List bk) {w:cj},gq w->(∀o∈l,hR o)->gq (u1 w l)
 |[],_,h,_=>h
 |o::l,w,h,hs=>by
  rw[u1];split
  ·exact gq.aCP l (h.put o<|hs o hW) λx J=>hs x<|by simp[J]
  ·exact h
def xq(d:eR):List I:=(ez d).cells
theorem XR{d:eR}{p:Int}(J:az G i=.cells 0 (xq d))(U:az G j=.cells 0 [.int .i64 p])(b:jV q d.c)(aM:q<=100000)(full:Bool):
  cV prog 69 [.bool full,.ref i 0 0,.ref j 0 0] G (λv H'=>v=.aN []/\H'=an G i (.cells 0<|xq {d with c:=mJ d.c p full})):=by
 refine mS func69 ?_;have hs:=aJJ d.c p full b aM;simp only[nM,jk,lx]at hs;simp only[xq,fq,I.cells]at J ⊢;generalize mJ d.c p full=x at *;repeat' first|((first|refine cI (hs _ _) ?_|refine ae ?_);simp only[go_sem,J,U])|refine ai ?_|fail
theorem XS(d:eR)(p:Int)(b:jV q d.c)(aM:q<=100000)(hd:gq d.w)(hs:∀o∈d.c.ops,hR o)(af:d.c.ops.length<=1000000)(hl:(d.c.ops.flatMap jB).length<=1000000000)
  (r5:∀o∈(mJ d.c p false).ops,hR o) (mA:(mJ d.c p false).ops.length<=1000000) (H:ab):aO prog 33 [ez d,.int .i64 p] H (ez<|zZ d p):=by
 refine bg func33 ?_;have J:=XB false false false false false false false false false d.c p (oC b.ci.n);unfold LK at J;unfold zZ;simp only[jk,lx]at J;cases hw:wL d.c p with
 |none=>
  rw[hw]at J;simp only at J;repeat' first|((first|refine cI (J _) ?_|refine ae ?_);simp only[go_sem,fq])|refine ai ?_|fail
  exact aX<|.refl _
 |some who=>
  rw[hw]at J;simp only at J ⊢;cases aP:iC d.c.g who with
  |true=>
   rw[aP]at J;rw[aC rfl];repeat' first|((first|refine cI (J _) ?_|refine ae ?_);simp only[go_sem,fq])|refine ai ?_|fail
   have aG:∀A B C,_:=λA B C=>aJ9 (i:=H.length+3) (f:=false) (g:=false) (w:=d.w) (G:=H++[A,B,C,.cells 0<|jT false false d.w]) mZ hd false d.c.ops hs af hl
   have h1:∀C D (uv:Bool),_:=λC D uv=>XR (i:=H.length) (j:=H.length+1) (d:=d) (p:=p) (G:=H++[.cells 0 (xq d),.cells 0 [.int .i64 p],C,D]) mZ mZ b aM uv;obtain⟨k,hk⟩:∃k,u0 d.w d.c.ops=k:=⟨_,rfl⟩;rw[hk]at aG ⊢;obtain⟨c5,ax⟩:=k;simp only[jT,ei,I.cells,ite_self]at aG ⊢;simp only[xq,fq,I.cells]at h1 ⊢;refine c4 (aG _ _ _) aI ?_;rintro v H' ⟨rfl,rfl⟩;simp only[go_sem];refine pT (first:=[]) (cap:=[.ref H.length 0 0,.ref (H.length+1) 0 0]) (h1 _ _ _) aI ?_
   rintro v H' ⟨rfl,rfl⟩;simp only[go_sem];generalize mJ d.c p (!decide (ax=0))=x;refine a7 ?_;exact aX<|.refl _
  |false=>
   rw[aP]at J;rw[ar nofun];repeat' first|((first|refine cI (J _) ?_|refine ae ?_);simp only[go_sem,fq])|refine ai ?_|fail
   have h1:∀C D (uv:Bool),_:=λC D uv=>XR (i:=H.length) (j:=H.length+1) (d:=d) (p:=p) (G:=H++[.cells 0 (xq d),.cells 0 [.int .i64 p],C,D]) mZ mZ b aM uv;simp only[xq,fq,I.cells]at h1;refine pT (first:=[]) (cap:=[.ref H.length 0 0,.ref (H.length+1) 0 0]) (h1 _ _ _) aI ?_
   rintro v H' ⟨rfl,rfl⟩;simp only[go_sem];generalize mJ d.c p false=x at *;obtain⟨k,hk⟩:∃k:Nat,min (max d.Kb 0) (x.ops.length:Int)=k:=⟨(min (max d.Kb 0) (x.ops.length:Int)).toNat,gf⟩;have nW:k<=x.ops.length:=gf;rw[hk,h5];have R0:((0:Int)<=(k:Int))=True:=b1 gf;have R1:((k:Int)<=(x.ops.length:Int))=True:=b1 gf;have aQz:(∀y:I,y∈x.ops.map bt->y.cells.length=7)=True:=b1 λy aJ=>by obtain⟨z, -,rfl⟩:=bP.1 aJ;rfl
   obtain⟨l,uB⟩:∃l,x.ops.drop k=l:=⟨_,rfl⟩;have xG:l.length=x.ops.length-k:=by rw[<-uB,hp]
   have R5:(x.ops.map bt).drop k=l.map bt:=by rw[<-yk,uB]
   have aPV:∀o∈l,hR o:=λo aD=>r5 o<|zJ (by rw[uB];exact aD)
   rw[uB];have bl:IntKind.i64.wrap ((x.ops.length:Int)-(k:Int))=(l.length:Int):=by rw[bS];omega
   obtain⟨K,V⟩:∃K:List I,K=xq ⟨x,d.w,d.Kb⟩:=⟨_,rfl⟩;obtain⟨O,Z⟩:∃O:List I,O=(fq true true true true true true true true true true true qP).cells:=⟨_,rfl⟩;repeat' first|(refine ae ?_;simp only[go_sem,hk,R0,R1,aQz,R5,bl])|refine bp ?_|fail
   refine n8 (ι:=cj×ab) (λs=>[(2,.ref H.length 0 0),(4,.ref (H.length+2) 0 0),(9,.ref (H.length+3) 0 0),(10,.sl false<|x.ops.map bt)]) (λs=>H++(.cells 0 K::.cells 0 [.int .i64 p]::.cells 0 O::.cells 0 (jT false false s.1)::s.2)) (λs=>s.1=u1 d.w l) ?_ ?_
   ·refine c7 (ι:=Nat×cj×ab) (λs=>[(2,.ref H.length 0 0),(4,.ref (H.length+2) 0 0),(9,.ref (H.length+3) 0 0),(10,.sl false<|x.ops.map bt),(57,.sl false<|l.map bt),(58,.int .i64 l.length),(59,.int .i64 s.1)]) (λs=>H++(.cells 0 K::.cells 0 [.int .i64 p]::.cells 0 O::.cells 0 (jT false false s.2.1)::s.2.2)) (λs=>s.1<=l.length/\gq s.2.1/\u1 d.w l=u1 s.2.1 (l.drop s.1)) (λs=>l.length-s.1) (0,d.w,[]) ⟨cb _,hd,hW⟩ ?_ (by rw[V,Z];simp only[jT,ei,I.cells,xq,fq];rfl) ?_
    ·simp[go_sem]
    rintro⟨m,w,L⟩ ⟨hm,RL,U⟩;simp only at hm RL U ⊢;obtain⟨G,a7⟩:∃G,H++(.cells 0 K::.cells 0 [.int .i64 p]::.cells 0 O::.cells 0 (jT false false w)::L)=G:=⟨_,rfl⟩;by_cases S:m<l.length
    ·have cA:=ek bt S;have ju:=ir S;have gH:=aPV _<|fQ S;obtain⟨o,aD⟩:∃o,o=l[m]:=⟨_,rfl⟩;rw[<-aD]at cA gH ju;rw[ju,u1]at U;have y6:decide ((m:Int)<(l.length:Int))=true:=cS;have uI:=eb S gf
     have xv:az G (H.length+3)=.cells 0 (jT false false w):=by rw[<-a7];simp only[go_sem]
     have ML:=aLe (bE xv trivial [.cells 0 (bt o).cells]) RL o gH;have gs:=hU xv trivial [.cells 0 (bt o).cells];have IL:∀X,an G (H.length+3) X=H++(.cells 0 K::.cells 0 [.int .i64 p]::.cells 0 O::X::L):=λX=>by rw[<-a7];simp only[go_sem]
     have CG:=RL.put o gH;obtain⟨r,aw⟩:∃r,rz w o=r:=⟨_,rfl⟩;rw[aw]at ML U CG;obtain⟨cY,aq⟩:=r;simp only[ite_self,gs,IL]at ML U CG;rw[a7];simp only[bt]at cA ML;repeat' first|(refine ae ?_;simp only[go_sem,cA,y6,S])|refine ai ?_|fail
     refine c4 ML aI ?_;rintro v H' ⟨rfl,rfl⟩;simp only[go_sem];by_cases he:aq=0
     ·subst he;rw[aC rfl]at U;repeat' first|(refine ae ?_;simp only[go_sem,uI])|refine ai ?_|fail
      exact⟨(m+1,cY,L++[.cells 0 (bt o).cells]),⟨S,CG,U⟩,by simp only;omega,rfl,rfl⟩
     ·have d2:decide (aq=0)=false:=b0 he;rw[ar he]at U;repeat' first|(refine ae ?_;simp only[go_sem,d2])|refine ai ?_|fail
      have dQ:cY=w:=by have:=aIb (w:=w) (o:=o) (by rw[aw];exact he);rw[aw]at this;exact this
      exact⟨(cY,L++[.cells 0 (bt o).cells]),by rw[U,dQ],rfl⟩
    ·have y6:decide ((m:Int)<(l.length:Int))=false:=dA;obtain rfl:m=l.length:=gf;rw[qD,u1]at U;repeat' first|(refine ae ?_;simp only[go_sem,y6])|refine ai ?_|fail
     exact⟨(w,L),U.symm,rfl⟩
   rintro⟨w,L⟩ rfl;generalize u1 d.w l=w;rw[V,Z];simp only[jT,ei,I.cells,xq,fq];refine a7 ?_;exact aX<|.refl _
def qo:List al->Option (List bk)
 |[]=>some []
 |t::ts=>match pB t with
  |some (o,[])=>(qo ts).map (o::·)
  |_=>none
def u2(m:Int)(d:gh):eR×Int:=
 let c:=mG m
 if c.2≠0 then(qP,c.2)else
 let w:=j6 d
 if w.2.2.2≠0 then(qP,w.2.2.2)else
 match jC w.2.1 with
 |none=>(qP,140)
 |some l=>match qo w.2.2.1 with
  |none=>(qP,140)
  |some r=>(⟨{c.1 with m:=Dw c.1.m<|l++r,ops:=l++r,g:={c.1.g with kept:=(l++r).length}},w.1,(l++r).length⟩,0)
theorem N5:∀{ts:List al} {r:List bk},qo ts=some r->(∀o∈r,cp o=true)/\r.length=ts.length
 |[],r,h=>by cases h;exact⟨λo U=>absurd U hW,rfl⟩
 |t::ts,r,h=>by
  unfold qo at h;split at h
  ·rename_i o h1;rw[gA]at h;obtain⟨K,h2,rfl⟩:=h;obtain⟨h3,h4⟩:=N5 h2;refine⟨λx J=>?_,by simp[h4]⟩
   rcases db.1 J with rfl|J
   ·exact ZJ h1
   ·exact h3 x J
  ·cases h
theorem WW(h:mG r=(x,0)):x.m.log=⟨[],[]⟩/\x={yO with m:=x.m}:=by
 unfold mG at h;split at h
 ·rename_i ay;cases h;refine⟨?_,rfl⟩;show(og r).1.log=_;unfold og at ay ⊢;split at ay
  ·rename_i h1;rw[aC h1];rfl
  ·simp at ay
 ·rename_i ay;exact absurd (b7 Prod.snd h) ay
theorem WX{d:gh}(hk:fI d):(j6 d).2.1.length<=40000/\(∀p∈(j6 d).2.2.1,p.length<=40000)/\(j6 d).2.2.1.length<=d.size.toNat:=by
 have:=hk.size;unfold j6;simp only;split
 ·exact⟨cb _,λp ad=>absurd ad hW,cb _⟩
 ·have h:=Pa (l5 d (2 * bY d.size.toNat)<|d.size.toNat-2 * bY d.size.toNat).length (l5 d (2 * bY d.size.toNat)<|d.size.toNat-2 * bY d.size.toNat) (mD d 2).2.1;have hs:=Gt hk (2 * bY d.size.toNat) (d.size.toNat-2 * bY d.size.toNat)<|by unfold bY;omega
  unfold qt;refine⟨(Oy d 2).2.2,h.2.2.1,e1 h.2.1 ?_⟩;have:=h.1;omega
theorem aGP(b:al)(aa:b.length<=1073741824)(H:ab):cV prog 58 [.str b] H
  (λr H'=>(jC b=none/\r=.aN [.sl true [],.int .i64 50]/\H'=H)\/∃l,jC b=some l/\l.length<=b.length/\r=.aN [.osl 7 H.length (l.length+1) 0 l.length l.length,.int .i64 0]/\H'=H++[.cells (l.length+1) (aV bt l)]):=by
 refine uf func58 ?_;repeat' first|(refine ae ?_;simp only[go_sem])|refine bp ?_|fail
 refine xU 4 7 rfl ?_;refine c7 (ι:=List bk×al×ab) (λs=>[(0,.str s.2.1),(4,.osl 7 H.length (s.1.length+1) 0 s.1.length s.1.length)]) (λs=>H++(.cells (s.1.length+1) (aV bt s.1)::s.2.2)) (λs=>s.1.length+s.2.1.length<=b.length/\jC b=(jC s.2.1).map (s.1++·)) (λs=>s.2.1.length) ([],b,[]) ⟨hW,hW⟩ ?_ rfl ?_
 ·simp[go_sem]
 rintro⟨acc,r,M⟩ ⟨hl,U⟩;simp only at hl U ⊢;obtain⟨G,a7⟩:∃G,H++(.cells (acc.length+1) (aV bt acc)::M)=G:=⟨_,rfl⟩;rw[a7];have g0:az G H.length=.cells (acc.length+1) (aV bt acc):=by rw[<-a7];simp only[go_sem]
 have g1:=bE g0 trivial;have g2:=hU g0 trivial;have gs:∀X,an G H.length X=H++(X::M):=λX=>by rw[<-a7];simp only[go_sem]
 by_cases af:r=[]
 ·have hd:decide (r=[])=true:=dr af;subst af;have O:jC b=some acc:=by rw[U];simp[jC,oW]
  repeat' first|(refine ae ?_;simp only[go_sem,hd])|refine ai ?_|fail
  refine⟨H++[.cells (acc.length+1) (aV bt acc)],M,_,by rw[<-a7];simp,hW,G1 λx J=>?_,.aN _ _ rfl<|ds (.cl _ (.osl _ _ _ _ _ _ hW)) (ds (.cl _ (.int _ _)) fx),.inr ⟨acc,O,gf,rfl,rfl⟩⟩
  rw[dH.1 J];exact λy S=>by obtain⟨a,V,h⟩:=vf.1 S;obtain⟨o, -,rfl⟩:=bP.1 V;simp only[bt,I.cells,db,mh,mj]at h;rcases h with rfl|rfl|rfl|rfl|rfl|rfl|rfl<;>first|exact .int _ _|exact .str _
 have hd:decide (r=[])=false:=b0 af;have K:=O8 r gf;unfold HN at K;rw[Vx af]at U;cases ag:pB r with
 |none=>
  simp only[ag,bt]at K;rw[ag]at U;repeat' first|(refine ae ?_;simp only[go_sem,hd])|refine ai ?_|fail
  exact⟨H,_,_,by rw[<-a7];simp only[go_sem];rfl,bh _,λi b h=>.inl h,.aN _ _ rfl<|ds (.cl _ (.sl _ _ nofun)) (ds (.cl _ (.int _ _)) fx),.inl ⟨U,rfl,rfl⟩⟩
 |some p=>
  obtain⟨o,Z⟩:=p;have z:=N2 ag;simp only[ag,bt]at K;have pq:0<r.length:=nH.2 af;have jw:(∀e,e=I.agg [.int .i64 o.at_.c,.int .i64 o.at_.r,.int .i64 o.kind,.int .i64 o.node,.int .i64 o.parent,.str o.name,.str o.data]->e.cells.length=7)=True:=b1 λe he=>by rw[he];rfl
  have iA:((acc.length+1) * 72<=140737488355328)=True:=b1 gf;have eh:=en (enc:=bt) (s:=7) (λ_=>rfl) acc;repeat' first|(refine ae ?_;simp only[go_sem,hd,jw,iA,eh,g0,g1,g2])|refine ai ?_|fail
  refine⟨(acc++[o],Z,M++[.cells 0 (bt o).cells]),⟨by simp only[bw,cd,dZ];omega,?_⟩,z,?_⟩
  ·simp only;rw[U,ag];simp only[e6,zK];congr 1;funext l;simp
  ·simp only[gs,bw,cd,dZ,iP,p9,G5,cE,bt,I.cells,c6,mf];refine⟨⟨?_,?_⟩,?_⟩<;>first|trivial|rfl
theorem aJK(f:Bool)(m:Int){d:gh}(hk:fI d)(hl:d.loose.length<=100000)(af:∀l r,jC (j6 d).2.1=some l->qo (j6 d).2.2.1=some r->(l++r).length<=2000)(H:ab):
  aO prog 29 [.int .i64 m,ha f d] H (.aN [ez (u2 m d).1,.int .i64 (u2 m d).2]):=by
 refine bg func29 ?_;have ao:=YU m;have hw:=aJY f hk hl;obtain⟨aj,FR,pq⟩:=WX hk;have hsz:=hk.size;unfold u2;obtain⟨C,ic⟩:∃C,mG m=C:=⟨_,rfl⟩;rw[ic]at ao ⊢;obtain⟨c,e⟩:=C;unfold ha at *;simp only[nM,jk,lx]at ao;by_cases he:e=0;case neg=>
  have hd:decide (e=0)=false:=b0 he;rw[aC he];repeat' first|(refine ae ?_;simp only[go_sem,hd])|refine ai ?_|fail
  exact aX<|Bu true true true true true true true true true true true qP e
 subst he;obtain⟨R6,kj⟩:=WW ic;rw[ar hW];generalize j6 d=W at *;obtain⟨w,st,rs,aq⟩:=W;simp only[Qy,ei]at hw af aj FR pq ⊢;by_cases he:aq=0;case neg=>
  have hd:decide (aq=0)=false:=b0 he;rw[aC he];repeat' first|(refine ae ?_;simp only[go_sem,hd])|refine ai ?_|fail
  exact aX<|Bu true true true true true true true true true true true qP aq
 subst he;rw[ar hW];have A1:=aGP st gf;repeat' first|(refine ae ?_;simp only[go_sem])|refine ai ?_|fail
 refine c4 (A1 _) aI ?_;rintro v H' (⟨O,rfl,rfl⟩|⟨l,O,xG,rfl,rfl⟩)
 ·rw[O];simp only[go_sem];repeat' first|(refine ae ?_;simp only[go_sem])|refine ai ?_|fail
  exact aX<|Bu true true true true true true true true true true true qP 140
 rw[O];simp only[go_sem];repeat' first|(refine ae ?_;simp only[go_sem])|refine bp ?_|fail
 refine kA rfl (λh=>absurd h hW) λh=>?_;refine HQ ?_;repeat' first|(refine ae ?_;simp only[go_sem])|refine bp ?_|fail
 obtain⟨S,V⟩:∃B:List I,B=[.int .i64 d.size,.str d.jJ,.sl f<|d.loose.map fa]:=⟨_,rfl⟩;obtain⟨Z,s0⟩:∃B:List I,B=(fq true true true true true true true true true true true qP).cells:=⟨_,rfl⟩;obtain⟨z,IS⟩:∃B:List I,B=(nM c).cells:=⟨_,rfl⟩;obtain⟨Hs,MD⟩:∃B:List I,B=jT false false w:=⟨_,rfl⟩;refine n8 (ι:=List bk×ab) (λs=>[(4,.ref (H.length+1) 0 0),(6,.ref (H.length+2) 0 0),(8,.ref (H.length+3) 0 0),(11,.osl 7 (H.length+4) (s.1.length+1) 0 s.1.length s.1.length)]) (λs=>H++(.cells 0 S::.cells 0 Z::.cells 0 z::.cells 0 Hs::.cells (s.1.length+1) (aV bt s.1)::s.2)) (λs=>∃r,qo rs=some r/\s.1=l++r) ?_ ?_
 ·refine c7 (ι:=Nat×List bk×ab) (λs=>[(4,.ref (H.length+1) 0 0),(6,.ref (H.length+2) 0 0),(8,.ref (H.length+3) 0 0),(11,.osl 7 (H.length+4) (s.2.1.length+1) 0 s.2.1.length s.2.1.length),(45,.sl false<|rs.map I.str),(46,.int .i64 rs.length),(47,.int .i64 s.1)])
   (λs=>H++(.cells 0 S::.cells 0 Z::.cells 0 z::.cells 0 Hs::.cells (s.2.1.length+1) (aV bt s.2.1)::s.2.2)) (λs=>s.1<=rs.length/\s.2.1.length=l.length+s.1/\∃p,s.2.1=l++p/\qo rs=(qo (rs.drop s.1)).map (p++·)) (λs=>rs.length-s.1) (0,l,[]) ⟨cb _,rfl,[],hW,hW⟩ ?_ (by rw[V,s0,IS,MD];simp only[jT,ei,I.cells,fq,nM,jk,lx];rfl) ?_
  ·simp[go_sem]
  rintro⟨k,acc,M⟩ ⟨ew,Fx,p,ad,J⟩;simp only at ew Fx ad J ⊢;obtain⟨G,a7⟩:∃G,H++(.cells 0 S::.cells 0 Z::.cells 0 z::.cells 0 Hs::.cells (acc.length+1) (aV bt acc)::M)=G:=⟨_,rfl⟩;rw[a7];by_cases U:k<rs.length
  ·have cA:=ek I.str U;have ju:=ir U;have FY:=FR _<|fQ U;obtain⟨t,ag⟩:∃t,t=rs[k]:=⟨_,rfl⟩;rw[<-ag]at cA FY ju;rw[ju,qo]at J;have y6:decide ((k:Int)<(rs.length:Int))=true:=cS;have uI:=eb U gf
   have g0:az G (H.length+4)=.cells (acc.length+1) (aV bt acc):=by rw[<-a7];simp only[go_sem]
   have g1:=bE g0 trivial;have g2:=hU g0 trivial;have gs:∀X,an G (H.length+4) X=H++(.cells 0 S::.cells 0 Z::.cells 0 z::.cells 0 Hs::X::M):=λX=>by rw[<-a7];simp only[go_sem]
   have xv:az G (H.length+1)=.cells 0 Z:=by rw[<-a7];simp only[go_sem]
   rw[s0]at xv;simp only[fq,I.cells]at xv;have aAB:=bE xv trivial;have aAC:=hU xv trivial;have aAD:∀X,an G (H.length+1) X=H++(.cells 0 S::X::.cells 0 z::.cells 0 Hs::.cells (acc.length+1) (aV bt acc)::M):=λX=>by rw[<-a7];simp only[go_sem]
   have po:=O8 t gf;unfold HN at po;cases aB0:pB t with
   |none=>
    rw[aB0]at po J;simp only[bt,DV]at po J;rw[J];repeat' first|(refine ae ?_;simp only[go_sem,cA,y6,U,aAB,aAC,aAD])|refine ai ?_|fail
    exact aX<|Bu true true true true true true true true true true true qP 140
   |some q=>
    obtain⟨o,aY⟩:=q;rw[aB0]at po J;simp only[bt]at po;by_cases mA:aY=[]
    ·subst mA;simp only at J;have jw:(∀e,e=I.agg [.int .i64 o.at_.c,.int .i64 o.at_.r,.int .i64 o.kind,.int .i64 o.node,.int .i64 o.parent,.str o.name,.str o.data]->e.cells.length=7)=True:=b1 λe he=>by rw[he];rfl
     have iA:((acc.length+1) * 72<=140737488355328)=True:=b1 gf;have eh:=en (enc:=bt) (s:=7) (λ_=>rfl) acc;repeat' first|(refine ae ?_;simp only[go_sem,cA,y6,U,jw,iA,eh,g0,g1,g2,uI])|refine ai ?_|fail
     refine⟨(k+1,acc++[o],M++[.cells 0 (bt o).cells]),⟨U,by simp only[bw,cd,dZ];omega,p++[o],by simp only[ad,c6],?_⟩,by simp only;omega,⟨?_,rfl⟩,?_⟩
     ·simp only;rw[J,zK];congr 1;funext l;simp
     ·simp only[bw,cd,dZ]
     ·simp only[gs,bw,cd,dZ,iP,p9,G5,cE,bt,I.cells,c6,mf]
    ·have ie:decide (aY=[])=false:=b0 mA;have J:qo rs=none:=by rw[J];cases aY with|nil=>exact absurd rfl mA|cons=>rfl
     rw[J];repeat' first|(refine ae ?_;simp only[go_sem,cA,y6,U,ie,aAB,aAC,aAD])|refine ai ?_|fail
     exact aX<|Bu true true true true true true true true true true true qP 140
  ·have y6:decide ((k:Int)<(rs.length:Int))=false:=dA;obtain rfl:k=rs.length:=gf;rw[qD,qo]at J;repeat' first|(refine ae ?_;simp only[go_sem,y6])|refine ai ?_|fail
   exact⟨(acc,M),⟨p,by rw[J];simp,ad⟩,rfl,a7.symm⟩
 rintro⟨ops,M⟩ ⟨r,nZ,nY⟩;simp only at nY;have mA:=af l r O nZ;simp only[nZ];rw[<-nY]at mA ⊢;refine A8 [11] (ops.map bt) (v:=ops.length+1) (lc:=ops.length) (i:=H.length+4) (s:=7) (cs:=aV bt ops) (by intro t ag;simp only[dH]at ag;subst ag;rw[dq];simp only[go_sem]) mZ gf rfl (aHd _) ?_
 have R9:=aGL false false false false false c.m ops ⟨by simp[R6],by simp[R6],by simp[R6];omega⟩ gf (λo K=>Ez (by
  rw[nY]at K;rcases fH.1 K with K|K
  ·exact Ew O o K
  ·exact(N5 nZ).1 o K))
 rw[V,s0,IS,MD];simp only[nM,jk,lx,jT,ei,I.cells,fq];simp only[lf,tr]at R9;obtain⟨R,eY⟩:∃R,Dw c.m ops=R:=⟨_,rfl⟩;rw[eY]at R9 ⊢;repeat' first|((first|refine cI (R9 _) ?_|refine ae ?_);simp only[go_sem])|refine bp ?_|(refine bz ?_ ?_<;>intro h<;>try exact bx h)|fail
 have aBB:ops.length=l.length+r.length:=by rw[nY,bw]
 simp only[<-aBB];exact aX<|.refl _
def sU(d:eR)(cC:al):eR×Int:=
 let o:=u2 d.c.m.rep<|qN d.w.bG cC
 if o.2≠0 then(d,o.2)else(o.1,0)
def Ua:List cK:=[.ah 0,.ah 0,.ah 0,.ah 0,.aQ,.aQ,.ah 0,.ah 0,.aQ,.aQ,.aQ,.bW [true,true,true,true,true,true],.bW [],.aQ]
attribute [go_sem] Ua
theorem YO(d:eR)(hd:gq d.w)(cC:al)(ad:cC.length<=1073741824)(af:∀l r,jC (j6<|qN d.w.bG cC).2.1=some l->qo (j6<|qN d.w.bG cC).2.2.1=some r->(l++r).length<=2000)(H:ab):
  aO prog 16 [ez d,.str cC] H (.aN [ez (sU d cC).1,.int .i64 (sU d cC).2]):=by
 refine bg func16 ?_;have U:∀A B M,aO prog _ _ (H++A::B::.cells 0 (jT false false d.w)::M) _:=λA B M=>aIt (i:=H.length+2) (f:=false) (g:=false) (w:=d.w) (G:=H++A::B::.cells 0 (jT false false d.w)::M) mZ hd cC ad;have hk:fI (qN d.w.bG cC):=OK hd.wP.bO cC;have J:=λf=>aJK f d.c.m.rep hk (by simp[qN]) af
 unfold sU;obtain⟨o,hO⟩:∃o,u2 d.c.m.rep (qN d.w.bG cC)=o:=⟨_,rfl⟩;rw[hO]at J ⊢;obtain⟨x,e⟩:=o;generalize qN d.w.bG cC=K at *;simp only[jT,ei,I.cells,ha]at U J;by_cases he:e=0
 ·subst he;rw[ar hW];repeat' first|((first|refine ia (U _ _ _) aI ?_|refine kg (U _ _ _) aI ?_|refine kh (λ_=>U _ _ _) aI ?_|refine ia (J _ _) aI ?_|refine kg (J _ _) aI ?_|refine kh (λ_=>J _ _) aI ?_|refine mx [2] Ua ?_|refine ae ?_);simp only[go_sem,fq])|((with_reducible refine And.intro ?_ ?_);focus (exact o8 (U _ _ _) aI))|((with_reducible refine And.intro (And.intro ?_ ?_) ?_);focus (exact o8 (U _ _ _) aI))|(exact o8 (U _ _ _) aI)|((with_reducible refine And.intro ?_ ?_);focus (exact o8 (J _ _) aI))|((with_reducible refine And.intro (And.intro ?_ ?_) ?_);focus (exact o8 (J _ _) aI))|(exact o8 (J _ _) aI)|refine ai ?_|fail
  exact aX<|.refl _
 ·have d1:decide (e=0)=false:=b0 he;rw[aC he];repeat' first|((first|refine ia (U _ _ _) aI ?_|refine kg (U _ _ _) aI ?_|refine kh (λ_=>U _ _ _) aI ?_|refine ia (J _ _) aI ?_|refine kg (J _ _) aI ?_|refine kh (λ_=>J _ _) aI ?_|refine mx [2] Ua ?_|refine ae ?_);simp only[go_sem,fq,d1])|((with_reducible refine And.intro ?_ ?_);focus (exact o8 (U _ _ _) aI))|((with_reducible refine And.intro (And.intro ?_ ?_) ?_);focus (exact o8 (U _ _ _) aI))|(exact o8 (U _ _ _) aI)|((with_reducible refine And.intro ?_ ?_);focus (exact o8 (J _ _) aI))|((with_reducible refine And.intro (And.intro ?_ ?_) ?_);focus (exact o8 (J _ _) aI))|(exact o8 (J _ _) aI)|refine ai ?_|fail
  exact aX<|.refl _
theorem aFl{b r:al}{o:bk}(h:pB b=some (o,r)):r.length+5<=b.length:=by
 unfold pB at h;simp only[kv]at h;obtain⟨⟨c,aW⟩,h1,⟨K,bA⟩,h2,⟨k,iv⟩,h3,⟨dg,iO⟩,h4,h⟩:=h;have z:=hg h1;have O:=hg h2;have S:=hg h3;have V:=hg h4;simp at h O S V;split at h
 ·simp only[kv]at h;obtain⟨⟨p,mr⟩,Z,⟨t,I⟩,J,h⟩:=h;have SZ:=hg Z;have U:=(vG J).2;simp only at h U;split at h
  ·cases h;omega
  ·cases h
 ·simp only[kv]at h;obtain⟨⟨t,I⟩,J,h⟩:=h;have U:=(vG J).2;simp only at h;split at h
  ·cases h;omega
  ·cases h
theorem Vr:∀(n:Nat) (b:al) (l:List bk),oW n b=some l->5 * l.length<=b.length
 |0,b,l,h=>by
  unfold oW at h;split at h
  ·cases h;simp
  ·cases h
 |n+1,b,l,h=>by
  unfold oW at h;split at h
  ·cases h;simp
  ·obtain⟨⟨o,r⟩,h1,h2⟩:=kv.1 h;obtain⟨k,h3,rfl⟩:=gA.1 h2;have:=Vr n r k h3;have:=aFl h1;simp;omega
theorem UX:∀(n:Nat) (b:al) (m:UInt8),b.length<=(((zk n b).flatMap (qQ m)).length)\/n<b.length
 |0,b,m=>gf
 |n+1,b,m=>by
  unfold zk;split
  ·rename_i h;rw[h];exact .inl<|cb _
  ·rcases UX n (b.drop 14) m with h|h
   ·rw[nj,bw];rw[hp]at h;have:(b.take 14).length<=(qQ m (b.take 14)).length:=by unfold qQ;simp only[cd,bw];omega
    rw[gK]at this;omega
   ·rw[hp]at h;omega
theorem aJL{s p:al}(h:rr s n=some (p,k)):p.length<=s.length:=by
 unfold rr at h;split at h
 ·cases h
 ·simp only[kv]at h;obtain⟨⟨c,K⟩,h1,b,h2,⟨v,aW⟩,h3,⟨q,O⟩,h4,h⟩:=h;simp only at h;split at h
  ·rename_i U;cases h;have aU:=U.2;unfold wF at aU;simp at aU;have bf:=U.1;have J:=aU.1;unfold hE at bf J;split at bf
   ·simp at bf
   ·rename_i af;rw[ar af]at J;refine e1 ?_ J;rcases UX (qg n.toNat p).length (qg n.toNat p) (zB n.toNat)with h|h
    ·refine e1 ?_ h;unfold qg dj se;simp only[bw];omega
    ·omega
  ·cases h
theorem aJM{s x:al}{q b:Int}(h:Bw s q=some (b,x)):x.length<=s.length:=by
 unfold Bw at h;simp only[kv]at h;obtain⟨⟨t,k⟩,h1,⟨v,r⟩,h2,h⟩:=h;have h3:=aJL h1;have h4:=hg h2;simp only at h h4;split at h
 ·cases h
 ·simp only[kv]at h;obtain⟨⟨y,K⟩,J,h⟩:=h;have U:=vG J;simp only at h U;split at h
  ·cases h;omega
  ·cases h
theorem WY{d:gh}(hk:fI d):∀i,i<=2->(mD d i).2.2.length<=16 * bY d.size.toNat
 |0,_=>by simp[mD]
 |i+1,hi=>by
  have U:=WY hk i gf;have hsz:=hk.size;rw[mD];cases K:Eh (yg d i) i with
  |none=>exact U
  |some y=>
   obtain⟨k, -,J⟩:=List.exists_of_findSome?_eq_some K;unfold Er;simp only;split
   ·unfold sj at J;split at J
    ·obtain⟨⟨b,x⟩,h2,rfl⟩:=gA.1 J;have:=aJM h2;unfold yg at this;rw[Gt hk _ _ (by unfold hV bY;split<;>omega)]at this
     simp;omega
    ·cases J
   ·exact U
theorem Vs{d:gh}(hk:fI d)(hs:d.size<=1000):∀l r,jC (j6 d).2.1=some l->qo (j6 d).2.2.1=some r->(l++r).length<=2000:=λl r h1 h2=>by
 have h3:=(WX hk).2.2;have h4:=Vr _ _ _ h1;have J:=(N5 h2).2;have U:(j6 d).2.1.length<=4000:=by
  unfold j6;simp;split
  ·exact cb _
  ·have:=WY hk 2 gf;unfold bY at this;exact e1 this gf
 rw[bw];omega
theorem WZ:∀(l:List bk) {g:hq},g.entries.length<=200->(eX g l).entries.length<=200
 |[],_,h=>h
 |o::l,g,h=>WZ l (oC<|Ex g o)
theorem W0:∀(l:List bk),(∀o∈l,cp o=true)->∀n:Int,l.foldl (λn o=>if cp o=true then mK n o.at_ else n) n=l.foldl (λn o=>mK n o.at_) n
 |[],_,_=>rfl
 |o::l,h,n=>by
  rw[qC,aC<|h o hW]
  exact W0 l (λx J=>h x j9) _
theorem aGQ{m:di}(h:og r=(m,0))(l)(J:∀o∈l,cp o=true):fJ (Dw m l):=by
 have hm:=Zu h;have U:m.dh=[]:=by
  unfold og at h;split at h
  ·cases h;rfl
  ·cases h
 obtain⟨s1,s2⟩:=Iu l m.seen;unfold Dw;rw[W0 l J];refine⟨(YG hm.nS l),(WZ l hm.cap),?_,?_,hm.rep,hm.dh,?_,hm.cq,hm.watch⟩
 ·intro o K;rcases((YZ hm.nS l).1) o K with h|h
  ·exact tL (hm.uj o h) s1
  ·exact s2 o h.1 h.2
 ·exact tL hm.seen s1
 ·intro s hs;simp only[U]at hs;cases hs
theorem W1{d:gh}(ay:(u2 m d).2=0):∃c l r,mG m=(c,0)/\(j6 d).2.2.2=0/\jC (j6 d).2.1=some l/\qo (j6 d).2.2.1=some r/\
  (u2 m d).1=⟨{c with m:=Dw c.m<|l++r,ops:=l++r,g:={c.g with kept:=(l++r).length}},(j6 d).1,(l++r).length⟩:=by
 unfold u2 at ay ⊢;obtain⟨W,J⟩:∃W,j6 d=W:=⟨_,rfl⟩;obtain⟨C,U⟩:∃C,mG m=C:=⟨_,rfl⟩;rw[J,U]at ay ⊢;obtain⟨c,e⟩:=C;obtain⟨w,st,rs,K⟩:=W;by_cases he:e=0
 ·rw[ar j9]at ay ⊢;by_cases h2:K=0
  ·rw[ar (oq h2)]at ay ⊢;cases hl:jC st with
   |none=>rw[hl]at ay;exact absurd (show(140:Int)=0 from ay) ko
   |some l=>
    rw[hl]at ay;cases O:qo rs with
    |none=>simp only[O]at ay;exact absurd (show(140:Int)=0 from ay) ko
    |some r=>exact⟨c,l,r,by rw[he],h2,rfl,rfl,rfl⟩
  ·rw[aC h2]at ay;exact absurd ay h2
 ·rw[aC he]at ay;exact absurd ay he
theorem aJN{d:gh}(hk:fI d)(hs:d.size<=1000)(ay:(u2 m d).2=0):jV 0 (u2 m d).1.c:=by
 obtain⟨c,l,r,J,h2,hl,U,e⟩:=W1 ay;have af:=Vs hk hs l r hl U;have K:=λo S=>(fH.1 S).elim (Ew hl o)<|(N5 U).1 o;rw[e];generalize l++r=ops at *;have O:=YM J;obtain⟨-,V⟩:=WW J;have Z:og m=(c.m,0):=by
  unfold mG at J;split at J
  ·rename_i h;cases J;exact Prod.ext rfl h
  ·rename_i h;exact absurd (b7 Prod.snd J) h
 rw[V];refine⟨⟨(aGQ Z ops K),λt ag=>(p2 ag),cb _,Zv,λt ag=>(p2 ag),λw hw=>(p2 hw),.nil,λw hw=>(p2 hw),⟨hW,jU _⟩,λt ag=>(p2 ag),λt ag=>(p2 ag),by simp only;omega⟩,bh _,λt ag=>(p2 ag),(⟨O.ll.w,O.ll.n⟩),K⟩
structure iu (q:Nat) (d:eR):Prop where
 b:jV q d.c
 w:gq d.w
 s:d.w.bG.size<=1000
theorem iu.up{q r:Nat}{d:eR}(h:iu q d)(k:q<=r):iu r d:=⟨h.b.up k,h.w,h.s⟩
theorem XT:∀(l:List bk) (w:cj),(u1 w l).bG.size=w.bG.size
 |[],_=>rfl
 |o::l,w=>by
  rw[u1];split
  ·rw[XT l,aLd]
  ·rfl
theorem aGR(s):(tP s).1.bG.size<=max s 0:=by
 unfold tP;simp;split
 ·exact Int.le_max_right _ _
 ·show(gi _ _ _).1.bG.size<=_;rw[(GK _ _ _).1];show min (max s 0) 65536<=_;omega
theorem aJO(h:(tP s).2=0):gq (tP s).1:=by
 unfold tP at h ⊢;simp only at h ⊢;split at h
 ·cases h
 rename_i af;rw[ar af];have hk:=X2 s;have hsz:=hk.size;have S:bY (qs s).size.toNat<=16384:=by unfold bY;omega
 obtain⟨J,U⟩:∃J,J={tN with bG:=qs s,seq:=1,base:=1,next:=1,end_:=(2 * bY (qs s).size.toNat:Nat)}:=⟨_,rfl⟩
 rw[<-U];obtain⟨V,K,O,Z⟩:=Kd J (by rw[U];exact hk) (hV (qs s).size.toNat 1) zX
 generalize(gi J (hV (qs s).size.toNat 1) zX).1=v at *;rw[O,U];refine⟨(Gu (K<|by rw[U];simp[qs])).ok,by simp[nR],λ_=>rfl,rfl,rfl,rfl,by simp only;omega,by simp only;omega,by simp only;omega,by simp[tN],by simp[tN],λp ad=>by simp[tN]at ad⟩
theorem aLn(hs:s<=1000)(h:(jA r s).2=0):iu 0 (jA r s).1:=by
 have J:=aGR s;unfold jA at h ⊢;split at h
 ·rename_i h1;rw[aC h1];split at h
  ·rename_i h2;rw[aC h2];exact⟨YM<|Prod.ext rfl h1,aJO h2,j9⟩
  ·rename_i h2;exact absurd h h2
 ·rename_i h1;exact absurd h h1
theorem iu.start{q:Nat}{d:eR}(h:iu q d){c:cg}(J:o3 c):iu q (qn d c).1:=by
 unfold qn;simp only;split
 ·exact h
 ·exact⟨h.b.start J,h.w,h.s⟩
theorem iu.step{q:Nat}{d:eR}(h:iu q d)(p):iu (q+1) (zZ d p):=by
 have hs:=λf=>h.b.step p f;unfold zZ;split
 ·exact h.up<|oi _
 split
 ·exact⟨hs _,h.w.kept _,by simp[aJ7];exact h.s⟩
 ·exact⟨hs _,gq.aCP _ h.w λo J=>Ez<|(hs false).op o (zJ J),by simp[XT];exact h.s⟩
theorem iu.mark{d:eR}(h:iu q d):iu q (uQ d).1:=by
 unfold uQ;simp only;split
 ·exact h
 ·exact⟨h.b,h.w.vD _,by simp[XF];exact h.s⟩
theorem iu.aNx{d:eR}(h:iu q d)(cC):iu q (sU d cC).1:=by
 have hk:=OK h.w.wP.bO cC;unfold sU;simp only;split
 ·exact h
 ·rename_i ay;have ay:=Decidable.not_not.1 ay;have J:=aJN hk h.s ay;obtain⟨c,l,r, -,h2, -, -,e⟩:=W1 ay;have hd:=aJ8 hk rfl h2;rw[e]at J ⊢;exact⟨J.up<|cb _,hd.1,by simp only[hd.2];exact h.s⟩
theorem iu.aRv{d:eR}(h:iu q d):d.c.ops.length<=2200:=e1 h.b.ci.ops (oC h.b.ci.iX.cap)
structure OG (d:eR) (o:Ord):Prop where
 rR:jV 100000 d.c
 w:gq d.w
 ops:∀o∈d.c.ops,hR o
 n:d.c.ops.length<=1000000
 l:(d.c.ops.flatMap jB).length<=1000000000
 aCE:∀x∈(mJ d.c o.pick false).ops,hR x
 fr:(mJ d.c o.pick false).ops.length<=1000000
 Te:o.cC.length<=1073741824
 aAi:∀l r,jC (j6<|qN d.w.bG o.cC).2.1=some l->qo (j6<|qN d.w.bG o.cC).2.2.1=some r->(l++r).length<=2000
theorem iu.do{d:eR}(h:iu q d)(aM:q<=100000)(ad:o.cC.length<=1073741824):OG d o:=by
 have hs:=h.b.step o.pick false;have af:=h.aRv;have hl:=WR d.c.ops h.b.op;refine⟨h.b.up aM,h.w,λo U=>Ez<|h.b.op o U,gf,gf,λx J=>Ez<|hs.op x J,?_,ad,Vs (OK h.w.wP.bO _) h.s⟩
 exact e1 hs.ci.ops (oC hs.ci.iX.cap)
def rm(d:eR)(o:Ord):eR×al:=
 if o.kind=1 then((qn d o.call).1,jf [(qn d o.call).2.2,(qn d o.call).2.1])
 else if o.kind=2 then(zZ d o.pick,[])
 else if o.kind=3 then((uQ d).1,jf [(uQ d).2])
 else if o.kind=4 then((sU d o.cC).1,dj (lC d)++jf [(sU d o.cC).2])
 else(d,[])
structure D9 (d:eR):Prop where
 at_:∀t∈d.c.aE,tS t.bZ
 n:d.c.aE.length<=40
 wf:kz d.c.m.log.nodes
 nl:d.c.m.log.nodes.length<=1073741824
 NT:rI d.c.m.log.nodes
 it:∀x∈jz d.c.m.log.nodes 0,D7 x
 Gb:(jz d.c.m.log.nodes 0).length<=1000
structure D8 (d:eR) (o:Ord):Prop extends OG d o where
 t:D9 d
 ax:(qn d o.call).2.2<=9223372036854775807/\(qn d o.call).2.1<=9223372036854775807
 aU:(uQ d).2<=9223372036854775807
 bf:(sU d o.cC).2<=9223372036854775807
theorem D9.len{d:eR}(h:D9 d):(lC d).length<=1700000000:=by
 have U:=nN (l:=[(d.c.aE.length:Int)]) (by have:=h.n;simp;omega)
 have a2:=x7 (f:=yh) (l:=d.c.aE) (c:=41000000) (λx J=>V2<|h.at_ x J) d.c.aE.length
 have a3:=nN (l:=[((jz d.c.m.log.nodes 0).length:Int)]) (by have:=h.Gb;simp;omega)
 have a4:=x7 (f:=zF) (l:=jz d.c.m.log.nodes 0) (c:=40027) (λx J=>V3<|h.it x J) (jz d.c.m.log.nodes 0).length
 rw[fe]at a2 a4;have:=h.n;have:=h.Gb;unfold lC Qp;simp only[bw,cd,dZ]at *;omega
def fy:eR->List Ord->eR×al
 |d,[]=>(d,[])
 |d,o::l=>((fy (rm d o).1 l).1,(rm d o).2++(fy (rm d o).1 l).2)
theorem N6:∀(l m:List Ord) (d:eR),fy d (l++m)=((fy (fy d l).1 m).1,(fy d l).2++(fy (fy d l).1 m).2)
 |[],m,d=>by simp[fy]
 |o::l,m,d=>by rw[mf,fy,N6 l m];simp[fy]
theorem rK.aSm{A:List I}(h:rK H A k T G)(B:List I):rK H B k T (an G H.length<|.cells 0 B):=
 ⟨⟨h.w.ne,bN h.w.aW gf _,bN h.w.bA gf _⟩,dK (cZ h.a trivial) _,lz h.p (bh _) _⟩
def vv(p:Option (Int×Int×List Ord)):I:=match p with
 |none=>.aN [.str [],.int .i64 240]
 |some (r,s,l)=>if(jA r s).2=0 then .aN [.str ((fy (jA r s).1 l).2++dj (lC (fy (jA r s).1 l).1)),.int .i64 0]else .aN [.str [],.int .i64 (jA r s).2]
theorem aJP(d:eR)(o:Ord)(hw:jG i j k T [] H)(h:D8 d o)(aa:T.length<=9000000000000):
  BV prog 47 i j [ez d,da o] H (ez (rm d o).1) (T++(rm d o).2) []:=by
 refine h9 func47 ?_;unfold rm;by_cases k1:o.kind=1
 ·rw[aC k1];have hs:=WS d o.call (oC h.rR.ci.n);have he:=h.ax;obtain⟨s,O⟩:∃s,qn d o.call=s:=⟨_,rfl⟩;rw[O]at hs he ⊢;obtain⟨x,n,e⟩:=s;simp only[cy]at hs he ⊢;unfold ez at hs ⊢;simp only[fq]at hs ⊢;repeat' first|(refine ae ?_;simp only[go_sem,da,k1])|refine bp ?_|(refine bz ?_ ?_<;>intro h<;>try exact bx h)|fail
  refine ur hw (rU true [e,n] (hw.app _) nc hW gf) aI λz mm K U S=>?_;rw[<-U];simp only[go_sem];repeat' first|(refine ae ?_;simp only[go_sem])|refine bp ?_|(refine bz ?_ ?_<;>intro h<;>try exact bx h)|fail
  rw[U];exact rb hw hW (eT.qR (.refl _) mZ)<|K.own.symm.trans (S _ _ _)
 rw[ar k1];by_cases k2:o.kind=2
 ·rw[aC k2];have hs:=XS d o.pick h.rR gf h.w h.ops h.n h.l h.aCE h.fr;generalize zZ d o.pick=x at *;unfold ez at hs ⊢;simp only[fq]at hs ⊢;repeat' first|(refine ae ?_;simp only[go_sem,da,k2])|refine bp ?_|(refine bz ?_ ?_<;>intro h<;>try exact bx h)|fail
  exact rb hw hW (eT.qR (.refl _) mZ)<|by first|exact hw.own.symm|(rw[cE];exact hw.own.symm)
 rw[ar k2];by_cases k3:o.kind=3
 ·rw[aC k3];have hs:=XH d h.w h.ops h.n h.l;have he:=h.aU;obtain⟨s,O⟩:∃s,uQ d=s:=⟨_,rfl⟩;rw[O]at hs he ⊢;obtain⟨x,e⟩:=s;simp only at hs he ⊢;unfold ez at hs ⊢;simp only[fq]at hs ⊢;repeat' first|(refine ae ?_;simp only[go_sem,da,k3])|refine bp ?_|(refine bz ?_ ?_<;>intro h<;>try exact bx h)|fail
  refine ur hw (rU true [e] (hw.app _) nc hW gf) aI λz mm K U S=>?_;rw[<-U];simp only[go_sem];repeat' first|(refine ae ?_;simp only[go_sem])|refine bp ?_|(refine bz ?_ ?_<;>intro h<;>try exact bx h)|fail
  rw[U];exact rb hw hW (eT.qR (.refl _) mZ)<|K.own.symm.trans (S _ _ _)
 rw[ar k3];by_cases k4:o.kind=4
 ·rw[aC k4];have ag:=Ls d h.t.at_ h.t.n h.t.wf h.t.nl h.t.NT h.t.it h.t.Gb;have J:=h.t.len;have hs:=YO d h.w o.cC h.Te h.aAi;have he:=h.bf;obtain⟨s,O⟩:∃s,sU d o.cC=s:=⟨_,rfl⟩;rw[O]at hs he ⊢;obtain⟨x,e⟩:=s;simp only at hs he ⊢;unfold ez at hs ag ⊢;simp only[fq]at hs ag ⊢;repeat' first|(refine ae ?_;simp only[go_sem,da,k4])|refine bp ?_|(refine bz ?_ ?_<;>intro h<;>try exact bx h)|fail
  have aW:=kX (t:=lC d) gf;refine ur hw (Bf (lC d) (hw.app _) gf gf) aI λz mm K U S=>?_;obtain⟨V,Z⟩:∃V,V=T++dj (lC d):=⟨_,rfl⟩;have bA:V.length<=T.length+(dj (lC d)).length:=by rw[Z,bw];omega
  rw[<-Z]at K;rw[<-U];simp only[go_sem];repeat' first|(refine ae ?_;simp only[go_sem])|refine bp ?_|(refine bz ?_ ?_<;>intro h<;>try exact bx h)|fail
  refine ur K (rU true [e] (K.app _) nc hW gf) aI λre pJ sr FH I=>?_;rw[<-FH];simp only[go_sem];repeat' first|(refine ae ?_;simp only[go_sem])|refine bp ?_|(refine bz ?_ ?_<;>intro h<;>try exact bx h)|fail
  rw[FH,U];refine rb hw hW (eT.qR (.refl _) mZ) (k':=re) ?_;rw[<-c6,<-Z,<-S,<-I];exact sr.own.symm
 rw[ar k4];unfold ez;simp only[fq];repeat' first|(refine ae ?_;simp only[go_sem,da,k1,k2,k3,k4])|refine bp ?_|(refine bz ?_ ?_<;>intro h<;>try exact bx h)|fail
 exact rb hw hW (eT.qR (.refl _) mZ)<|by first|exact hw.own.symm|(rw[cE];exact hw.own.symm)
theorem Ze(b:al)(aa:b.length<=1048576)(z:∀r s l,k6 b=some (r,s,l)->(jA r s).2=0->(∀q (h:q<l.length),D8 (fy (jA r s).1<|l.take q).1 l[q]/\(fy (jA r s).1 (l.take q)).2.length<=9000000000000)/\D9 (fy (jA r s).1 l).1/\(fy (jA r s).1 l).2.length<=9000000000000/\l.length<=1000000)(H:ab):
  aO prog 23 [.str b] H (vv<|k6 b):=by
 refine bg func23 ?_;have aw:=Pq b aa;cases ay:k6 b with
 |none=>
  rw[ay]at aw;simp only[B4,vv]at aw ⊢;repeat' first|(refine ae ?_;simp only[go_sem])|refine bp ?_|(refine bz ?_ ?_<;>intro h<;>try exact bx h)|fail
  exact bJ<|.of rfl
 |some p=>
  obtain⟨r,s,l⟩:=p;have z:=z r s l ay;rw[ay]at aw;simp only[B4,vv]at aw ⊢;have J:=PW r s;obtain⟨X,dk⟩:∃X,jA r s=X:=⟨_,rfl⟩;rw[dk]at J z ⊢;obtain⟨d,e⟩:=X;simp only at J z ⊢;unfold ez at J;simp only[fq]at J;by_cases he:e=0;case neg=>
   have hd:decide (e=0)=false:=b0 he;rw[ar he];repeat' first|(refine ae ?_;simp only[go_sem,hd])|refine bp ?_|(refine bz ?_ ?_<;>intro h<;>try exact bx h)|fail
   exact aX<|.refl _
  subst he;obtain⟨l8,K,Dr,Ny⟩:=z rfl;rw[aC rfl];repeat' first|(refine ae ?_;simp only[go_sem])|refine bp ?_|(refine bz ?_ ?_<;>intro h<;>try exact bx h)|fail
  refine uM (v:=0) (cs:=[.sl true []]) (H.length+1) 0 1 mZ rfl ?_;simp only[go_sem];repeat' first|(refine ae ?_;simp only[go_sem])|refine bp ?_|(refine bz ?_ ?_<;>intro h<;>try exact bx h)|fail
  obtain⟨nK,uw⟩:∃nK,H++[.cells 0 (ez d).cells,.cells 0 [.osl 1 (H.length+2) 1 0 0 0],.cells 1 []]=nK:=⟨_,rfl⟩;have cU:rK H (ez d).cells 0 [] nK:=uw▸⟨jG.aCs H _ [],mZ,_,rfl⟩;obtain⟨D,bR⟩:∃D:Nat->eR×al,∀q,D q=fy d (l.take q):=⟨_,λ_=>rfl⟩;refine c7 (ι:=Nat×Nat×ab) (λx=>[(8,.ref H.length 0 0),(9,.ref (H.length+1) 0 0),(30,.sl false<|l.map da),(31,.int .i64 l.length),(32,.int .i64 x.1)]) (λx=>x.2.2) (λx=>x.1<=l.length/\rK H (ez (D x.1).1).cells x.2.1 (D x.1).2 x.2.2) (λx=>l.length-x.1) (0,0,nK) ⟨cb _,by rw[bR];exact cU⟩ ?_ (by rw[<-uw];rfl) ?_
  ·simp[go_sem]
  rintro⟨q,tp,G⟩ ⟨aM,U⟩;simp only at aM U ⊢;by_cases V:q<l.length
  ·have cA:=ek da V;have bl:decide ((q:Int)<(l.length:Int))=true:=cS;have xI:=l8 q V;have qT:D (q+1)=((rm (D q).1 l[q]).1,(D q).2++(rm (D q).1 l[q]).2):=by rw[bR,bR,hc V,N6];simp[fy]
   rw[<-bR]at xI;generalize l[q]=o at *;generalize D q=x at *;obtain⟨aAl,T⟩:=x;simp only[da]at cA;simp only at xI U qT;have O:=U.a;have aR:=bE U.a trivial;unfold ez at O aR;simp only[fq,I.cells]at O aR;repeat' first|(refine ae ?_;simp only[go_sem,cA,bl,V,O,aR])|refine bp ?_|(refine bz ?_ ?_<;>intro h<;>try exact bx h)|fail
   refine Ba (U.app _) (aJP aAl o (U.app _).w xI.1 xI.2) aI λgQ mm S ph MV=>?_;have Z:=S.a;unfold ez at Z;simp only[fq,I.cells]at Z;generalize rm aAl o=y at *;unfold ez;simp only[go_sem,fq];repeat' first|(refine ae ?_;simp only[go_sem,Z])|refine bp ?_|(refine bz ?_ ?_<;>intro h<;>try exact bx h)|fail
   refine⟨(q+1,gQ,_),⟨V,?_⟩,by simp only;omega,b7 _<|eb V gf,rfl⟩
   show rK H (ez (D<|q+1).1).cells gQ (D<|q+1).2 _;rw[qT];exact S.aSm _
  have l2:q=l.length:=gf;subst l2;have bl:decide ((l.length:Int)<(l.length:Int))=false:=dA;rw[bR,fe]at U;generalize fy d l=y at *;obtain⟨Mr,T⟩:=y;simp only at U K Dr ⊢;have ag:=Ls Mr K.at_ K.n K.wf K.nl K.NT K.it K.Gb;have J:=K.len;have aW:=kX (t:=lC Mr) gf;have O:=U.a;unfold ez at O ag;simp only[fq,I.cells]at O ag;repeat' first|(refine ae ?_;simp only[go_sem,bl,O])|refine bp ?_|(refine bz ?_ ?_<;>intro h<;>try exact bx h)|fail
  refine Ba U (Bf (lC Mr) U.w gf gf) aI λgQ mm S ph MV=>?_;obtain⟨ou,s4⟩:∃ou,ou=T++dj (lC Mr):=⟨_,rfl⟩;rw[<-s4]at S ⊢;have Z:=S.w.aW;have cD:=S.w.bA;unfold rA at Z;simp only[go_sem];repeat' first|(refine ae ?_;simp only[go_sem,Z,cD])|refine bp ?_|(refine bz ?_ ?_<;>intro h<;>try exact bx h)|fail
  obtain⟨M,rfl⟩:=S.p;exact aX<|.refl _
theorem iu.aRA{d:eR}(h:iu q d)(J:o3 o.call):iu (q+1) (rm d o).1:=by
 unfold rm
 (repeat' split)<;>first|exact(h.start J).up (oi _)|exact h.step _|exact h.mark.up (oi _)|exact(h.aNx _).up (oi _)|exact h.up<|oi _
theorem iu.aCF{d:eR}(h:iu q d):D9 d:=by have af:=h.b.ci.iX.nodes;exact⟨λt ag=>(h.b.q t ag).2,h.b.ci.n,af.lA.wf,oC af.len,λn hm=>oC<|(af.dg n hm).name,Pt af 0,aJD af⟩
theorem aJQ(w:cj)(a:Nat)(s:al):(gi w a s).2<=1000:=by
 unfold gi pw
 (repeat' split)<;>simp_all
theorem wm(h:n∈([0,20,50,120,121,130,140,193]:List Int)):n<=1000:=by simp at h;omega
theorem aJR(n:Int)(p:al):(hE n p).2<=1000:=by unfold hE;split<;>exact wm hW
theorem aJS(w:cj)(s:al):(uY w s).2<=1000:=by
 unfold uY
 (repeat' first|split|simp only)<;>first|exact aJR _ _|exact aJQ _ _ _|exact wm hW
theorem aJT(w:cj):(tw w).2<=1000:=by unfold tw;split<;>exact wm hW
theorem aJU(w:cj)(l:List bk):(sk w l).2<=1000:=by
 unfold sk;simp only;split
 ·unfold zv;split<;>exact wm hW
 split
 ·exact aJS _ _
 split
 ·exact aJT _
 ·exact wm hW
theorem aLo(m:Int):(mG m).2<=1000:=by
 unfold mG og
 (repeat' split)<;>first|exact wm hW|simp_all
theorem aJV(m:Int)(d:gh):(u2 m d).2<=1000:=by
 unfold u2;simp only;split
 ·exact aLo m
 split
 ·unfold j6;simp only;split<;>exact wm hW
 split
 ·exact wm hW
 ·split<;>exact wm hW
theorem iu.aCA{d:eR}(h:iu q d)(aM:q<=100000)(ad:o.cC.length<=1073741824):D8 d o:=by
 refine⟨h.do aM ad,h.aCF,?_,?_,?_⟩
 ·have:=h.b.ci.n;unfold qn sa
  (repeat' first|split|simp only)<;>simp_all<;>omega
 ·unfold uQ;simp only;split
  ·exact tL (aJU _ _) ko
  ·exact tL (wm (n:=0) hW) ko
 ·unfold sU;simp only;split
  ·exact tL (aJV _ _) ko
  ·exact tL (wm (n:=0) hW) ko
theorem D8.len{d:eR}{o:Ord}(h:D8 d o):(rm d o).2.length<=1700000100:=by
 have h1:=h.t.len;have h2:=kX (t:=lC d) gf;have ax:=h.ax;have aU:=h.aU;have bf:=h.bf;unfold rm;split
 ·exact e1 (nN nc) hW
 split
 ·simp
 split
 ·exact e1 (nN nc) hW
 split
 ·have:=nN (l:=[(sU d o.cC).2]) nc;simp only[bw,cd,dZ]at *;omega
 ·simp
theorem lX.cs(h:lX o):o3 o.call:=⟨h.path,h.to,h.data⟩
theorem iu.Ta:∀(l:List Ord) {q:Nat} {d:eR},iu q d->(∀o∈l,lX o)->q+l.length<=100000->iu (q+l.length) (fy d l).1/\(fy d l).2.length<=1700000100 * l.length
 |[],_,_,h,_,_=>⟨h,by simp[fy]⟩
 |o::l,q,d,h,U,aM=>by
  rw[cd]at aM;obtain⟨h1,h2⟩:=iu.Ta l (h.aRA (U o hW).cs) (λx J=>U x (by simp[J])) gf
  have h3:=(h.aCA gf (o:=o) (oC<|(U o hW).cC)).len
  rw[fy];refine⟨by rw[cd];exact h1.up gf,?_⟩
  simp only[bw,cd];omega
theorem KJ{l:List Ord}(hs:s<=1000)(J:∀o∈l,lX o)(hl:l.length<=5000)(ay:(jA r s).2=0):
  (∀q (h:q<l.length),D8 (fy (jA r s).1<|l.take q).1 l[q]/\(fy (jA r s).1 (l.take q)).2.length<=9000000000000)/\D9 (fy (jA r s).1 l).1/\(fy (jA r s).1 l).2.length<=9000000000000/\l.length<=1000000:=by
 have hd:=aLn hs ay;refine⟨λq aM=>?_,?_⟩
 ·have hm:∀o∈l.take q,lX o:=λo h=>J o<|yp h
  have ag:(l.take q).length=q:=by rw[gK];omega
  obtain⟨h1,h2⟩:=iu.Ta (l.take q) hd hm gf;exact⟨h1.aCA gf (oC<|(J _ (fQ aM)).cC),gf⟩
 ·obtain⟨h1,h2⟩:=iu.Ta l hd J gf;exact⟨h1.aCF,gf,gf⟩
theorem Lm(b:al)(O:b.length<=5000)(H:ab):aO prog 23 [.str b] H (vv<|k6 b):=Ze b gf (λr s l h ay=>by obtain⟨h1,h2⟩:=Wx gf h;obtain⟨S,a2,a3,a4,a5,J⟩:=NZ h1;have hl:=Wv l;have U:=b7 List.length J;simp only[bw]at U;refine KJ gf (λo K=>?_) gf ay;exact(aH8 gf h).1 o K) H
def Av(d:eR)(o:Ord):eR×Int:=
 if o.kind=1 then((qn d o.call).1,(qn d o.call).2.2)else if o.kind=2 then(zZ d o.pick,0)else if o.kind=3 then uQ d else if o.kind=4 then sU d o.cC else(d,0)
theorem Zf(d:eR)(o:Ord)(h:OG d o)(H:ab):aO prog 13 [ez d,da o] H (.aN [ez (Av d o).1,.int .i64 (Av d o).2]):=by
 refine bg func13 ?_;unfold Av;by_cases k1:o.kind=1
 ·rw[aC k1];have hs:=WS d o.call (oC h.rR.ci.n);generalize qn d o.call=x at *;simp only[cy]at hs;unfold ez at hs ⊢;simp only[fq]at hs ⊢;repeat' first|(refine ae ?_;simp only[go_sem,da,k1])|refine bp ?_|(refine bz ?_ ?_<;>intro h<;>try exact bx h)|fail
  exact aX<|.refl _
 rw[ar k1];by_cases k2:o.kind=2
 ·rw[aC k2];have hs:=XS d o.pick h.rR gf h.w h.ops h.n h.l h.aCE h.fr;generalize zZ d o.pick=x at *;unfold ez at hs ⊢;simp only[fq]at hs ⊢;repeat' first|(refine ae ?_;simp only[go_sem,da,k2])|refine bp ?_|(refine bz ?_ ?_<;>intro h<;>try exact bx h)|fail
  exact aX<|.refl _
 rw[ar k2];by_cases k3:o.kind=3
 ·rw[aC k3];have hs:=XH d h.w h.ops h.n h.l;generalize uQ d=x at *;unfold ez at hs ⊢;simp only[fq]at hs ⊢;repeat' first|(refine ae ?_;simp only[go_sem,da,k3])|refine bp ?_|(refine bz ?_ ?_<;>intro h<;>try exact bx h)|fail
  exact aX<|.refl _
 rw[ar k3];by_cases k4:o.kind=4
 ·rw[aC k4];have hs:=YO d h.w o.cC h.Te h.aAi;generalize sU d o.cC=x at *;unfold ez at hs ⊢;simp only[fq]at hs ⊢;repeat' first|(refine ae ?_;simp only[go_sem,da,k4])|refine bp ?_|(refine bz ?_ ?_<;>intro h<;>try exact bx h)|fail
  exact aX<|.refl _
 rw[ar k4];unfold ez;simp only[fq];repeat' first|(refine ae ?_;simp only[go_sem,da,k1,k2,k3,k4])|refine bp ?_|(refine bz ?_ ?_<;>intro h<;>try exact bx h)|fail
 exact aX<|.refl _
theorem aIc(d:eR)(o:Ord):(Av d o).1=(rm d o).1:=by
 unfold Av rm
 (repeat' split)<;>rfl
theorem aGS(J:0<=r/\r<=63)(h:(jA r s).2≠0):(jA r s).2=120/\s<4:=by
 have U:(mG r).2=0:=by unfold mG og;rw[aC J];rfl
 unfold jA at h ⊢;rw[aC U]at h ⊢;split at h
 ·exact absurd rfl h
 ·rename_i h2;rw[ar h2];unfold tP at h2 ⊢;simp only at h2 ⊢;split at h2
  ·rename_i h3;rw[aC h3];refine⟨rfl,?_⟩;rw[VL]at h3;unfold bY qs at h3;simp only at h3;omega
  ·exact absurd rfl h2
theorem aLp(b:al)(O:b.length<=5000):∃(p:al) (e r s:Int) (f:Bool) (l:List Ord) (k:Int),vv (k6 b)=.aN [.str p,.int .i64 e]/\B4 (k6 b)=.aN [.int .i64 r,.int .i64 s,.sl f<|l.map da,.int .i64 k]/\(e=0/\p≠[]/\k=0\/e=240/\p=[]/\k=240\/e=120/\p=[]/\k=0/\s<4):=by
 cases J:k6 b with
 |none=>exact⟨_,_,_,_,_,[],_,rfl,rfl,.inr<|.inl ⟨rfl,rfl,rfl⟩⟩
 |some x=>
  obtain⟨r,s,l⟩:=x;obtain⟨U,a2, -⟩:=NZ (Wx gf J).1;by_cases ay:(jA r s).2=0
  ·refine⟨_,_,_,_,_,_,_,aC ay,rfl,.inl ⟨rfl,?_,rfl⟩⟩;unfold dj bT;simp
  ·obtain⟨ax,K⟩:=aGS ⟨U,a2⟩ ay;exact⟨_,_,_,_,_,_,_,ar ay,rfl,.inr<|.inr ⟨ax,rfl,rfl,K⟩⟩
def xf:List Ord:=[⟨1,⟨2,[47,97],[],[],0⟩,0,[]⟩,⟨2,eK,300,[]⟩,⟨3,eK,0,[]⟩,⟨4,eK,0,[120]⟩]
def L2:al:=[1,8,1,2,2,47,97,2,130,44,3,4,1,120]
theorem OO(H:ab):aO prog 21 [] H (.bool true):=by
 have Z:∀o∈xf,lX o:=by intro o J;simp only[xf,db,mh,mj]at J;rcases J with rfl|rfl|rfl|rfl<;>exact⟨ko,ko,ko,ko,ko,ko⟩
 have h1:=KG true 1 8 xf ko ko Z ko;have h2:=Pq L2 ko;have h3:=Lm [0,8] ko;have h4:=Lm [0,2] ko;have U:=Lm [0] ko;have K:=KG true 64 8 [] ko ko hW ko;have O:=Dn xf.head! ko ko;have S:=Dn Cg ko ko;have V:=aLK false true xf xf;have bf:(jA 0 2).2=120:=by decide+kernel
 rw[show oP 1 8 xf=some L2 by decide+kernel]at h1
 rw[show k6 L2=some (1,8,xf) by decide+kernel]at h2
 rw[show k6 [0,8]=some (0,8,[]) by decide+kernel,vv,aC (by decide+kernel),show(fy (jA 0 8).1 []).2++dj (lC (fy (jA 0 8).1 []).1)=[2,0,0] by decide+kernel]at h3
 rw[show k6 [0,2]=some (0,2,[]) by decide+kernel,vv,ar (by rw[bf];decide),bf]at h4
 rw[show k6 [0]=none by decide+kernel,vv]at U
 rw[show oP 64 8 []=none by decide+kernel]at K
 rw[show gF xf.head! =true by decide+kernel]at O
 rw[show gF Cg=false by decide+kernel]at S
 rw[dr rfl]at V;refine bg func21 ?_;simp only[xf,L2,Ir,B4,dO,jm,da,cy,eK,Cg,List.head!]at h1 h2 h3 h4 U K O S V;repeat' first|(refine ae ?_;simp only[go_sem])|refine bp ?_|(refine bz ?_ ?_<;>intro h<;>try exact bx h)|fail
 exact bJ<|.of rfl
theorem aLq(b:al)(H:ab):aO prog 9 [.str b] H (.bool true):=by
 refine bg func9 ?_;have V:=OO;by_cases J:b.length<=5000
 ·have hd:decide ((5000:Int)<(b.length:Int))=false:=dA;have h1:=Lm b J;have h2:=Pq b gf;obtain⟨p,e,r,s,f,l,k,ax,U,K⟩:=aLp b J;rw[ax]at h1;rw[U]at h2;rcases K with⟨rfl,ad,rfl⟩|⟨rfl,rfl,rfl⟩|⟨rfl,rfl,rfl,hs⟩
  ·have O:decide (p=[])=false:=b0 ad;repeat' first|(refine ae ?_;simp only[go_sem,hd,O])|refine bp ?_|(refine bz ?_ ?_<;>intro h<;>try exact bx h)|fail
   exact bJ<|.of rfl
  ·repeat' first|(refine ae ?_;simp only[go_sem,hd])|refine bp ?_|(refine bz ?_ ?_<;>intro h<;>try exact bx h)|fail
   exact bJ<|.of rfl
  ·have S:decide (s<4)=true:=dr hs;repeat' first|(refine ae ?_;simp only[go_sem,hd,S])|refine bp ?_|(refine bz ?_ ?_<;>intro h<;>try exact bx h)|fail
   exact bJ<|.of rfl
 ·have hd:decide ((5000:Int)<(b.length:Int))=true:=cS;repeat' first|(refine ae ?_;simp only[go_sem,hd])|refine bp ?_|(refine bz ?_ ?_<;>intro h<;>try exact bx h)|fail
  exact bJ<|.of rfl
end Go.Proofs.YtnmamncmpklliaaGreatDoor

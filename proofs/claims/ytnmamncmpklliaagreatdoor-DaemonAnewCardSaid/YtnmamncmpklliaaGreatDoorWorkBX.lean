/- What the functions of this seat answer (50 of 53). No condition. -/
import Derived.Test.YtnmamncmpklliaaGreatDoorWorkBW
set_option linter.unusedSimpArgs false
set_option linter.unusedVariables false
set_option maxRecDepth 100000
set_option maxHeartbeats 16000000
namespace Go.Proofs.YtnmamncmpklliaaGreatDoor
variable{r s m:Int}{d:ft}{q:Nat}
open Go.Proofs.Tryz
def ow:List ag->Option (List aX)
 |[]=>some []
 |t::ts=>match oj t with
  |some (o,[])=>(ow ts).map (o::·)
  |_=>none
def ru(m:Int)(d:ft):dJ×Int:=
 let c:=k7 m
 if c.2≠0 then(p8,c.2)else
 let w:=iv d
 if w.2.2.2≠0 then(p8,w.2.2.2)else
 match iJ w.2.1 with
 |none=>(p8,140)
 |some l=>match ow w.2.2.1 with
  |none=>(p8,140)
  |some r=>(⟨{c.1 with m:=qF c.1.m<|l++r,ops:=l++r,g:={c.1.g with kept:=(l++r).length}},w.1,(l++r).length⟩,0)
theorem Np:∀{ts:List ag} {r:List aX},ow ts=some r->(∀o∈r,b0 o=true)/\r.length=ts.length
 |[],r,h=>by cases h;exact⟨λo U=>absurd U kk,rfl⟩
 |t::ts,r,h=>by
  unfold ow at h;split at h
  ·rename_i o h1;rw[hC]at h;obtain⟨K,h2,rfl⟩:=h;obtain⟨h3,h4⟩:=Np h2;refine⟨λx J=>?_,by simp[h4]⟩
   rcases cU.1 J with rfl|J
   ·exact Y8 h1
   ·exact h3 x J
  ·cases h
theorem Ow{x:bK}(h:k7 r=(x,0)):x.m.log=⟨[],[]⟩/\x={qZ with m:=x.m}:=by
 unfold k7 at h;split at h
 ·rename_i aw;cases h;refine⟨?_,rfl⟩;show(j2 r).1.log=_;unfold j2 at aw ⊢;split at aw
  ·rename_i h1;rw[aA h1];rfl
  ·simp at aw
 ·rename_i aw;exact absurd (bU Prod.snd h) aw
theorem V4(hk:eY d):(iv d).2.1.length<=40000/\(∀p∈(iv d).2.2.1,p.length<=40000)/\(iv d).2.2.1.length<=d.size.toNat:=by
 have:=hk.size;unfold iv;simp only;split
 ·exact⟨bW _,λp ad=>absurd ad kk,bW _⟩
 ·have h:=PD (jr d (2 * bj d.size.toNat)<|d.size.toNat-2 * bj d.size.toNat).length (jr d (2 * bj d.size.toNat)<|d.size.toNat-2 * bj d.size.toNat) (ks d 2).2.1;have hs:=FE hk (2 * bj d.size.toNat) (d.size.toNat-2 * bj d.size.toNat)<|by unfold bj;omega
  unfold pc;refine⟨(Le d 2).2.2,h.2.2.1,fr h.2.1 ?_⟩;have:=h.1;omega
theorem aFz(b:ag)(aa:b.length<=1073741824)(H:ab):dp prog 58 [.str b] H
  (λr H'=>(iJ b=none/\r=.aQ [.sl true [],.int .i64 50]/\H'=H)\/∃l,iJ b=some l/\l.length<=b.length/\r=.aQ [.osl 7 H.length (l.length+1) 0 l.length l.length,.int .i64 0]/\H'=H++[.cells (l.length+1) (aS bh l)]):=by
 refine tU func58 ?_;repeat' first|(refine ae ?_;simp only[go_sem])|refine bt ?_|fail
 refine y2 4 7 rfl ?_;refine cE (ι:=List aX×ag×ab) (λs=>[(0,.str s.2.1),(4,.osl 7 H.length (s.1.length+1) 0 s.1.length s.1.length)]) (λs=>H++(.cells (s.1.length+1) (aS bh s.1)::s.2.2)) (λs=>s.1.length+s.2.1.length<=b.length/\iJ b=(iJ s.2.1).map (s.1++·)) (λs=>s.2.1.length) ([],b,[]) ⟨kk,kk⟩ ?_ rfl ?_
 ·simp[go_sem]
 rintro⟨acc,r,M⟩ ⟨hl,U⟩;simp only at hl U ⊢;obtain⟨G,aW⟩:∃G,H++(.cells (acc.length+1) (aS bh acc)::M)=G:=⟨_,rfl⟩;rw[aW];have g0:ay G H.length=.cells (acc.length+1) (aS bh acc):=by rw[<-aW];simp only[go_sem]
 have g1:=bC g0 trivial;have g2:=gN g0 trivial;have gs:∀X,ar G H.length X=H++(X::M):=λX=>by rw[<-aW];simp only[go_sem]
 by_cases af:r=[]
 ·have hd:decide (r=[])=true:=cD af;subst af;have O:iJ b=some acc:=by rw[U];simp[iJ,o6]
  repeat' first|(refine ae ?_;simp only[go_sem,hd])|refine ao ?_|fail
  refine⟨H++[.cells (acc.length+1) (aS bh acc)],M,_,by rw[<-aW];simp,kk,FA λx J=>?_,.aQ _ _ rfl<|dj (.cl _ (.osl _ _ _ _ _ _ kk)) (dj (.cl _ (.int _ _)) fw),.inr ⟨acc,O,iV,rfl,rfl⟩⟩
  rw[dF.1 J];exact λy T=>by obtain⟨a,V,h⟩:=u2.1 T;obtain⟨o, -,rfl⟩:=bJ.1 V;simp only[bh,I.cells,cU,lj,lk]at h;rcases h with rfl|rfl|rfl|rfl|rfl|rfl|rfl<;>first|exact .int _ _|exact .str _
 have hd:decide (r=[])=false:=bN af;have K:=OC r iV
 unfold GU at K;rw[Tu af]at U;cases ah:oj r with
 |none=>
  simp only[ah,bh]at K;rw[ah]at U;repeat' first|(refine ae ?_;simp only[go_sem,hd])|refine ao ?_|fail
  exact⟨H,_,_,by rw[<-aW];simp only[go_sem];rfl,bd _,λi b h=>.inl h,.aQ _ _ rfl<|dj (.cl _ (.sl _ _ nofun)) (dj (.cl _ (.int _ _)) fw),.inl ⟨U,rfl,rfl⟩⟩
 |some p=>
  obtain⟨o,Z⟩:=p;have z:=Nj ah;simp only[ah,bh]at K;have RG:0<r.length:=pe.2 af;have j0:(∀e,e=I.agg [.int .i64 o.at_.c,.int .i64 o.at_.r,.int .i64 o.kind,.int .i64 o.node,.int .i64 o.parent,.str o.name,.str o.data]->e.cells.length=7)=True:=b5 λe he=>by rw[he];rfl
  have jD:((acc.length+1) * 72<=140737488355328)=True:=b5 iV
  have dH:=ej (enc:=bh) (s:=7) (λ_=>rfl) acc
  repeat' first|(refine ae ?_;simp only[go_sem,hd,j0,jD,dH,g0,g1,g2])|refine ao ?_|fail
  refine⟨(acc++[o],Z,M++[.cells 0 (bh o).cells]),⟨by simp only[bF,cg,eg];omega,?_⟩,z,?_⟩
  ·simp only;rw[U,ah];simp only[fZ,Option.map_map];congr 1;funext l;simp
  ·simp only[gs,bF,cg,eg,iR,q1,JK,cA,bh,I.cells,dr,iN];refine⟨⟨?_,?_⟩,?_⟩<;>first|trivial|rfl
theorem WZ(f:Bool)(m:Int)(hk:eY d)(hl:d.loose.length<=100000)(af:∀l r,iJ (iv d).2.1=some l->ow (iv d).2.2.1=some r->(l++r).length<=2000)(H:ab):
  aM prog 29 [.int .i64 m,fW f d] H (.aQ [cR (ru m d).1,.int .i64 (ru m d).2]):=by
 refine aZ func29 ?_;have au:=X9 m;have hw:=aMk f hk hl;obtain⟨ai,E7,RG⟩:=V4 hk;have hsz:=hk.size;unfold ru;obtain⟨C,kj⟩:∃C,k7 m=C:=⟨_,rfl⟩;rw[kj]at au ⊢;obtain⟨c,e⟩:=C;unfold fW at *;simp only[n1,hx,kC]at au;by_cases he:e=0;case neg=>
  have hd:decide (e=0)=false:=bN he;rw[aA he];repeat' first|(refine ae ?_;simp only[go_sem,hd])|refine ao ?_|fail
  exact aV<|A3 true true true true true true true true true true true p8 e
 subst he;obtain⟨Rt,kl⟩:=Ow kj;rw[aj kk]
 generalize iv d=W at *;obtain⟨w,st,rs,al⟩:=W;simp only[Ql,dN]at hw af ai E7 RG ⊢;by_cases he:al=0;case neg=>
  have hd:decide (al=0)=false:=bN he;rw[aA he];repeat' first|(refine ae ?_;simp only[go_sem,hd])|refine ao ?_|fail
  exact aV<|A3 true true true true true true true true true true true p8 al
 subst he;rw[aj kk]
 have AF:=aFz st iV
 repeat' first|(refine ae ?_;simp only[go_sem])|refine ao ?_|fail
 refine dU (AF _) aK ?_;rintro v H' (⟨O,rfl,rfl⟩|⟨l,O,EZ,rfl,rfl⟩)
 ·rw[O];simp only[go_sem];repeat' first|(refine ae ?_;simp only[go_sem])|refine ao ?_|fail
  exact aV<|A3 true true true true true true true true true true true p8 140
 rw[O];simp only[go_sem];repeat' first|(refine ae ?_;simp only[go_sem])|refine bt ?_|fail
 refine uv rfl (λh=>absurd h kk) λh=>?_
 refine Pj ?_;repeat' first|(refine ae ?_;simp only[go_sem])|refine bt ?_|fail
 obtain⟨T,ZT⟩:∃B:List I,B=[.int .i64 d.size,.str d.iU,.sl f<|d.loose.map eO]:=⟨_,rfl⟩;obtain⟨V,s0⟩:∃B:List I,B=(en true true true true true true true true true true true p8).cells:=⟨_,rfl⟩;obtain⟨Z,HI⟩:∃B:List I,B=(n1 c).cells:=⟨_,rfl⟩;obtain⟨z,LW⟩:∃B:List I,B=jN false false w:=⟨_,rfl⟩;refine qD (ι:=List aX×ab) (λs=>[(4,.ref (H.length+1) 0 0),(6,.ref (H.length+2) 0 0),(8,.ref (H.length+3) 0 0),(11,.osl 7 (H.length+4) (s.1.length+1) 0 s.1.length s.1.length)]) (λs=>H++(.cells 0 T::.cells 0 V::.cells 0 Z::.cells 0 z::.cells (s.1.length+1) (aS bh s.1)::s.2)) (λs=>∃r,ow rs=some r/\s.1=l++r) ?_ ?_
 ·refine cE (ι:=Nat×List aX×ab) (λs=>[(4,.ref (H.length+1) 0 0),(6,.ref (H.length+2) 0 0),(8,.ref (H.length+3) 0 0),(11,.osl 7 (H.length+4) (s.2.1.length+1) 0 s.2.1.length s.2.1.length),(45,.sl false<|rs.map I.str),(46,.int .i64 rs.length),(47,.int .i64 s.1)])
   (λs=>H++(.cells 0 T::.cells 0 V::.cells 0 Z::.cells 0 z::.cells (s.2.1.length+1) (aS bh s.2.1)::s.2.2)) (λs=>s.1<=rs.length/\s.2.1.length=l.length+s.1/\∃p,s.2.1=l++p/\ow rs=(ow (rs.drop s.1)).map (p++·)) (λs=>rs.length-s.1) (0,l,[]) ⟨bW _,rfl,[],kk,kk⟩ ?_ (by rw[ZT,s0,HI,LW];simp only[jN,dN,I.cells,en,n1,hx,kC];rfl) ?_
  ·simp[go_sem]
  rintro⟨k,acc,M⟩ ⟨ee,An,p,ad,J⟩;simp only at ee An ad J ⊢;obtain⟨G,aW⟩:∃G,H++(.cells 0 T::.cells 0 V::.cells 0 Z::.cells 0 z::.cells (acc.length+1) (aS bh acc)::M)=G:=⟨_,rfl⟩;rw[aW];by_cases U:k<rs.length
  ·have ck:=di I.str U;have jZ:=ij U;have Fb:=E7 _<|ga U;obtain⟨t,ah⟩:∃t,t=rs[k]:=⟨_,rfl⟩;rw[<-ah]at ck Fb jZ;rw[jZ,ow]at J;have yN:decide ((k:Int)<(rs.length:Int))=true:=cK;have uq:=dA U iV
   have g0:ay G (H.length+4)=.cells (acc.length+1) (aS bh acc):=by rw[<-aW];simp only[go_sem]
   have g1:=bC g0 trivial;have g2:=gN g0 trivial;have gs:∀X,ar G (H.length+4) X=H++(.cells 0 T::.cells 0 V::.cells 0 Z::.cells 0 z::X::M):=λX=>by rw[<-aW];simp only[go_sem]
   have w8:ay G (H.length+1)=.cells 0 V:=by rw[<-aW];simp only[go_sem]
   rw[s0]at w8;simp only[en,I.cells]at w8;have ZI:=bC w8 trivial;have ZJ:=gN w8 trivial;have ZK:∀X,ar G (H.length+1) X=H++(.cells 0 T::X::.cells 0 Z::.cells 0 z::.cells (acc.length+1) (aS bh acc)::M):=λX=>by rw[<-aW];simp only[go_sem]
   have s9:=OC t iV
   unfold GU at s9;cases aA4:oj t with
   |none=>
    rw[aA4]at s9 J;simp only[bh,Dm]at s9 J;rw[J];repeat' first|(refine ae ?_;simp only[go_sem,ck,yN,U,ZI,ZJ,ZK])|refine ao ?_|fail
    exact aV<|A3 true true true true true true true true true true true p8 140
   |some q=>
    obtain⟨o,a8⟩:=q;rw[aA4]at s9 J;simp only[bh]at s9;by_cases nB:a8=[]
    ·subst nB;simp only at J;have j0:(∀e,e=I.agg [.int .i64 o.at_.c,.int .i64 o.at_.r,.int .i64 o.kind,.int .i64 o.node,.int .i64 o.parent,.str o.name,.str o.data]->e.cells.length=7)=True:=b5 λe he=>by rw[he];rfl
     have jD:((acc.length+1) * 72<=140737488355328)=True:=b5 iV
     have dH:=ej (enc:=bh) (s:=7) (λ_=>rfl) acc
     repeat' first|(refine ae ?_;simp only[go_sem,ck,yN,U,j0,jD,dH,g0,g1,g2,uq])|refine ao ?_|fail
     refine⟨(k+1,acc++[o],M++[.cells 0 (bh o).cells]),⟨U,by simp only[bF,cg,eg];omega,p++[o],by simp only[ad,dr],?_⟩,by simp only;omega,⟨?_,rfl⟩,?_⟩
     ·simp only;rw[J,Option.map_map];congr 1;funext l;simp
     ·simp only[bF,cg,eg]
     ·simp only[gs,bF,cg,eg,iR,q1,JK,cA,bh,I.cells,dr,iN]
    ·have iz:decide (a8=[])=false:=bN nB;have J:ow rs=none:=by rw[J];cases a8 with|nil=>exact absurd rfl nB|cons=>rfl
     rw[J];repeat' first|(refine ae ?_;simp only[go_sem,ck,yN,U,iz,ZI,ZJ,ZK])|refine ao ?_|fail
     exact aV<|A3 true true true true true true true true true true true p8 140
  ·have yN:decide ((k:Int)<(rs.length:Int))=false:=cQ;obtain rfl:k=rs.length:=iV
   rw[oy,ow]at J;repeat' first|(refine ae ?_;simp only[go_sem,yN])|refine ao ?_|fail
   exact⟨(acc,M),⟨p,by rw[J];simp,ad⟩,rfl,aW.symm⟩
 rintro⟨ops,M⟩ ⟨r,pF,ql⟩;simp only at ql;have nB:=af l r O pF;simp only[pF];rw[<-ql]at nB ⊢;refine CN [11] (ops.map bh) (v:=ops.length+1) (lc:=ops.length) (i:=H.length+4) (s:=7) (cs:=aS bh ops) (by intro t ah;simp only[dF]at ah;subst ah;rw[cv];simp only[go_sem]) nb iV rfl (aLA _) ?_
 have Rv:=Vv false false false false false c.m ops ⟨by simp[Rt],by simp[Rt],by simp[Rt];omega⟩ iV (λo K=>Dw (by
  rw[ql]at K;rcases e4.1 K with K|K
  ·exact DR O o K
  ·exact(Np pF).1 o K))
 rw[ZT,s0,HI,LW];simp only[n1,hx,kC,jN,dN,I.cells,en];simp only[ih,oo]at Rv;obtain⟨R,jh⟩:∃R,qF c.m ops=R:=⟨_,rfl⟩;rw[jh]at Rv ⊢;repeat' first|((first|refine cx (Rv _) ?_|refine ae ?_);simp only[go_sem])|refine bt ?_|(refine bB ?_ ?_<;>intro h<;>try exact bA h)|fail
 have aAD:ops.length=l.length+r.length:=by rw[ql,bF]
 simp only[<-aAD];exact aV<|.refl _
def lx(d:dJ)(cz:ag):dJ×Int:=
 let o:=ru d.c.m.rep<|pk d.w.bw cz
 if o.2≠0 then(d,o.2)else(o.1,0)
def Tw:List cu:=[.pure 0,.pure 0,.pure 0,.pure 0,.free,.free,.pure 0,.pure 0,.free,.free,.free,.eff [true,true,true,true,true,true],.eff [false,false,false,false,false,false],.free]
attribute [go_sem] Tw
theorem Di(d:dJ)(hd:gn d.w)(cz:ag)(ad:cz.length<=1073741824)(af:∀l r,iJ (iv<|pk d.w.bw cz).2.1=some l->ow (iv<|pk d.w.bw cz).2.2.1=some r->(l++r).length<=2000)(H:ab):
  aM prog 16 [cR d,.str cz] H (.aQ [cR (lx d cz).1,.int .i64 (lx d cz).2]):=by
 refine aZ func16 ?_;have U:∀A B M,aM prog _ _ (H++A::B::.cells 0 (jN false false d.w)::M) _:=λA B M=>aHL (i:=H.length+2) (f:=false) (g:=false) (w:=d.w) (G:=H++A::B::.cells 0 (jN false false d.w)::M) nb hd cz ad
 have hk:eY (pk d.w.bw cz):=N7 hd.wu.bM cz;have J:=λf=>WZ f d.c.m.rep hk (by simp[pk]) af
 unfold lx;obtain⟨o,hO⟩:∃o,ru d.c.m.rep (pk d.w.bw cz)=o:=⟨_,rfl⟩;rw[hO]at J ⊢;obtain⟨x,e⟩:=o;generalize pk d.w.bw cz=K at *;simp only[jN,dN,I.cells,fW]at U J;by_cases he:e=0
 ·subst he;rw[aj kk]
  repeat' first|((first|refine hY (U _ _ _) aK ?_|refine kf (U _ _ _) aK ?_|refine kg (λ_=>U _ _ _) aK ?_|refine hY (J _ _) aK ?_|refine kf (J _ _) aK ?_|refine kg (λ_=>J _ _) aK ?_|refine mx [2] Tw ?_|refine ae ?_);simp only[go_sem,en])|((with_reducible refine And.intro ?_ ?_);focus (exact pj (U _ _ _) aK))|((with_reducible refine And.intro (And.intro ?_ ?_) ?_);focus (exact pj (U _ _ _) aK))|(exact pj (U _ _ _) aK)|((with_reducible refine And.intro ?_ ?_);focus (exact pj (J _ _) aK))|((with_reducible refine And.intro (And.intro ?_ ?_) ?_);focus (exact pj (J _ _) aK))|(exact pj (J _ _) aK)|refine ao ?_|fail
  exact aV<|.refl _
 ·have d1:decide (e=0)=false:=bN he;rw[aA he];repeat' first|((first|refine hY (U _ _ _) aK ?_|refine kf (U _ _ _) aK ?_|refine kg (λ_=>U _ _ _) aK ?_|refine hY (J _ _) aK ?_|refine kf (J _ _) aK ?_|refine kg (λ_=>J _ _) aK ?_|refine mx [2] Tw ?_|refine ae ?_);simp only[go_sem,en,d1])|((with_reducible refine And.intro ?_ ?_);focus (exact pj (U _ _ _) aK))|((with_reducible refine And.intro (And.intro ?_ ?_) ?_);focus (exact pj (U _ _ _) aK))|(exact pj (U _ _ _) aK)|((with_reducible refine And.intro ?_ ?_);focus (exact pj (J _ _) aK))|((with_reducible refine And.intro (And.intro ?_ ?_) ?_);focus (exact pj (J _ _) aK))|(exact pj (J _ _) aK)|refine ao ?_|fail
  exact aV<|.refl _
theorem aEw{b r:ag}{o:aX}(h:oj b=some (o,r)):r.length+5<=b.length:=by
 unfold oj at h;simp only[ni]at h;obtain⟨⟨c,aO⟩,h1,⟨K,bo⟩,h2,⟨k,hG⟩,h3,⟨de,gW⟩,h4,h⟩:=h;have z:=ml h1;have O:=ml h2;have T:=ml h3;have V:=ml h4;simp only at h O T V;split at h
 ·simp only[ni]at h;obtain⟨⟨p,mM⟩,Z,⟨t,I⟩,J,h⟩:=h;have Sb:=ml Z;have U:=(vo J).2;simp only at h U;split at h
  ·cases h;omega
  ·cases h
 ·simp only[ni]at h;obtain⟨⟨t,I⟩,J,h⟩:=h;have U:=(vo J).2;simp only at h;split at h
  ·cases h;omega
  ·cases h
theorem UF:∀(n:Nat) (b:ag) (l:List aX),o6 n b=some l->5 * l.length<=b.length
 |0,b,l,h=>by
  unfold o6 at h;split at h
  ·cases h;simp
  ·cases h
 |n+1,b,l,h=>by
  unfold o6 at h;split at h
  ·cases h;simp
  ·obtain⟨⟨o,r⟩,h1,h2⟩:=ni.1 h;obtain⟨k,h3,rfl⟩:=hC.1 h2;have:=UF n r k h3;have:=aEw h1;simp only[cg];omega
theorem Uh:∀(n:Nat) (b:ag) (m:UInt8),b.length<=(((xy n b).flatMap (jd m)).length)\/n<b.length
 |0,b,m=>by cases b<;>simp[xy]
 |n+1,b,m=>by
  unfold xy;split
  ·rename_i h;rw[h];exact .inl<|bW _
  ·rcases Uh n (b.drop 14) m with h|h
   ·left;rw[nj,bF];rw[fT]at h;have:(b.take 14).length<=(jd m (b.take 14)).length:=by unfold jd;simp only[cg,bF];omega
    rw[eK]at this;omega
   ·rw[fT]at h;right;omega
theorem aJT{s p:ag}{n:Int}{k:Nat}(h:hz s n=some (p,k)):p.length<=s.length:=by
 unfold hz at h;split at h
 ·cases h
 ·simp only[ni]at h;obtain⟨⟨c,T⟩,h1,b,h2,⟨v,aO⟩,h3,⟨q,V⟩,h4,h⟩:=h;simp only at h;split at h
  ·rename_i O;cases h;have J:=O.2;unfold qB at J;simp only[cV,gU]at J;have U:=O.1;have K:=J.1;unfold gG at U K;split at U
   ·simp at U
   ·rename_i af;rw[aj af]at K;refine fr ?_ K;unfold hg lY;rcases Uh (l1 n.toNat p).length (l1 n.toNat p) (pK n.toNat)with h|h
    ·refine fr ?_ h;unfold l1 gF o3;simp only[bF];omega
    ·omega
  ·cases h
theorem aJU{s x:ag}{q b:Int}(h:lf s q=some (b,x)):x.length<=s.length:=by
 unfold lf at h;simp only[ni]at h;obtain⟨⟨t,k⟩,h1,⟨v,r⟩,h2,h⟩:=h;have h3:=aJT h1;have h4:=ml h2;simp only at h h4;split at h
 ·cases h
 ·simp only[ni]at h;obtain⟨⟨y,K⟩,J,h⟩:=h;have U:=vo J;simp only at h U;split at h
  ·cases h;omega
  ·cases h
theorem V5{d:ft}(hk:eY d):∀i,i<=2->(ks d i).2.2.length<=16 * bj d.size.toNat
 |0,_=>by simp[ks]
 |i+1,hi=>by
  have U:=V5 hk i iV
  have hsz:=hk.size;rw[ks];cases K:qz (pL d i) i with
  |none=>exact U
  |some y=>
   unfold qz at K;obtain⟨k, -,J⟩:=List.exists_of_findSome?_eq_some K;unfold yg;simp only;split
   ·unfold o4 at J;split at J
    ·obtain⟨⟨b,x⟩,h2,rfl⟩:=hC.1 J;have:=aJU h2;unfold pL at this;rw[FE hk _ _ (by unfold dT bj;split<;>omega)]at this
     simp only;omega
    ·cases J
   ·exact U
theorem TA(hk:eY d)(hs:d.size<=1000):∀l r,iJ (iv d).2.1=some l->ow (iv d).2.2.1=some r->(l++r).length<=2000:=λl r h1 h2=>by
 have h3:=(V4 hk).2.2;have h4:=UF _ _ _ h1;have J:=(Np h2).2;have U:(iv d).2.1.length<=4000:=by
  unfold iv;simp only;split
  ·exact bW _
  ·have:=V5 hk 2 iV
   unfold bj at this;exact fr this iV
 rw[bF];omega
theorem V6:∀(l:List aX) {g:fC},g.entries.length<=200->(eN g l).entries.length<=200
 |[],_,h=>h
 |o::l,g,h=>V6 l (g:=fc g o) (by have:=DO g o;omega)
theorem V7:∀(l:List aX),(∀o∈l,b0 o=true)->∀n:Int,l.foldl (λn o=>if b0 o=true then lP n o.at_ else n) n=l.foldl (λn o=>lP n o.at_) n
 |[],_,_=>rfl
 |o::l,h,n=>by
  rw[mG,mG,aA<|h o kk]
  exact V7 l (λx J=>h x<|by simp[J]) _
theorem aFA{m:c0}(h:j2 r=(m,0))(l:List aX)(J:∀o∈l,b0 o=true):fk (qF m l):=by
 have hm:=YM h;have U:m.cN=[]:=by
  unfold j2 at h;split at h
  ·cases h;rfl
  ·cases h
 obtain⟨s1,s2⟩:=Hp l m.seen;have K:=XD hm.n4 l;have O:=V6 l hm.cap;have T:=(Ym hm.n4 l).1;unfold qF;rw[V7 l J];generalize l.foldl (λn o=>lP n o.at_) m.seen=S at *
 generalize eN m.log l=G at *;refine⟨K,O,?_,?_,hm.rep,hm.cN,?_,hm.cd,hm.watch⟩
 ·intro o V;rcases T o V with h|h
  ·exact Int.le_trans (hm.tY o h) s1
  ·exact s2 o h.1 h.2
 ·exact Int.le_trans hm.seen s1
 ·intro s hs;simp only[U]at hs;cases hs
theorem V8(aw:(ru m d).2=0):∃c l r,k7 m=(c,0)/\(iv d).2.2.2=0/\iJ (iv d).2.1=some l/\ow (iv d).2.2.1=some r/\
  (ru m d).1=⟨{c with m:=qF c.m<|l++r,ops:=l++r,g:={c.g with kept:=(l++r).length}},(iv d).1,(l++r).length⟩:=by
 unfold ru at aw ⊢;obtain⟨W,J⟩:∃W,iv d=W:=⟨_,rfl⟩;obtain⟨C,U⟩:∃C,k7 m=C:=⟨_,rfl⟩;rw[J,U]at aw ⊢;clear J U;obtain⟨c,e⟩:=C;obtain⟨w,st,rs,al⟩:=W;simp only at aw ⊢;by_cases he:e=0
 ·rw[aj (by simpa using he)]at aw ⊢
  by_cases h2:al=0
  ·rw[aj (by simpa using h2)]at aw ⊢
   cases hl:iJ st with
   |none=>rw[hl]at aw;exact absurd (show(140:Int)=0 from aw) l9
   |some l=>
    rw[hl]at aw;cases K:ow rs with
    |none=>simp only[K]at aw;exact absurd (show(140:Int)=0 from aw) l9
    |some r=>exact⟨c,l,r,by rw[he],h2,rfl,rfl,rfl⟩
  ·rw[aA h2]at aw;exact absurd aw h2
 ·rw[aA he]at aw;exact absurd aw he
theorem aJV(hk:eY d)(hs:d.size<=1000)(aw:(ru m d).2=0):jQ 0 (ru m d).1.c:=by
 obtain⟨c,l,r,J,h2,hl,U,e⟩:=V8 aw;have af:=TA hk hs l r hl U;have K:∀o∈l++r,b0 o=true:=λo T=>(e4.1 T).elim (DR hl o)<|(Np U).1 o
 rw[e];clear e aw hl U h2;generalize l++r=ops at *;have O:=X2 J;obtain⟨-,V⟩:=Ow J;have Z:j2 m=(c.m,0):=by
  unfold k7 at J;split at J
  ·rename_i h;cases J;exact oB rfl h
  ·rename_i h;exact absurd (bU Prod.snd J) h
 have I:=aFA Z ops K;have z:yc (qF c.m ops):=⟨O.lh.w,O.lh.n⟩;rw[V];generalize qF c.m ops=M at *;refine⟨⟨I,λt ah=>(by cases ah),bW _,YN,λt ah=>(by cases ah),λw hw=>(by cases hw),.nil,λw hw=>(by cases hw),⟨by simp only;omega,jP _⟩,λt ah=>(by cases ah),λt ah=>(by cases ah),by simp only;omega⟩,bd _,λt ah=>(by cases ah),z,K⟩
structure mH (q:Nat) (d:dJ):Prop where
 b:jQ q d.c
 w:gn d.w
 s:d.w.bw.size<=1000
theorem mH.up{q r:Nat}{d:dJ}(h:mH q d)(k:q<=r):mH r d:=⟨h.b.up k,h.w,h.s⟩
theorem W0:∀(l:List aX) (w:bO),(rr w l).bw.size=w.bw.size
 |[],_=>rfl
 |o::l,w=>by
  rw[rr];split
  ·rw[W0 l,aKJ]
  ·rfl
theorem aFB(s:Int):(qL s).1.bw.size<=max s 0:=by
 unfold qL;simp only;split
 ·exact Int.le_max_right _ _
 ·show(gd _ _ _).1.bw.size<=_;rw[(FI _ _ _).1];show min (max s 0) 65536<=_;omega
theorem aJW(h:(qL s).2=0):gn (qL s).1:=by
 unfold qL at h ⊢;simp only at h ⊢;split at h
 ·cases h
 rename_i af;rw[aj af];have hk:=Xd s;have hsz:=hk.size;have T:bj (pP s).size.toNat<=16384:=by unfold bj;omega
 obtain⟨J,U⟩:∃J:bO,J={sQ with bw:=pP s,seq:=1,base:=1,next:=1,end_:=(2 * bj (pP s).size.toNat:Nat)}:=⟨_,rfl⟩
 rw[<-U];obtain⟨V,K,O,Z⟩:=Hq J (by rw[U];exact hk) (dT (pP s).size.toNat 1) uM
 have K:=K<|by rw[U];simp[pP]
 generalize(gd J (dT (pP s).size.toNat 1) uM).1=v at *;rw[O,U];refine⟨(DN K).ok,by simp[lM],λ_=>rfl,rfl,rfl,rfl,by simp only;omega,by simp only;omega,by simp only;omega,by simp[sQ],by simp[sQ],λp ad=>by simp[sQ]at ad⟩
theorem aKP(hs:s<=1000)(h:(jK r s).2=0):mH 0 (jK r s).1:=by
 have J:=aFB s;unfold jK at h ⊢;split at h
 ·rename_i h1;rw[aA h1];split at h
  ·rename_i h2;rw[aA h2];exact⟨X2<|oB rfl h1,aJW h2,by simp only;omega⟩
  ·rename_i h2;exact absurd h h2
 ·rename_i h1;exact absurd h h1
theorem mH.start{q:Nat}{d:dJ}(h:mH q d){c:b8}(J:np c):mH q (lv d c).1:=by
 unfold lv;simp only;split
 ·exact h
 ·exact⟨h.b.start J,h.w,h.s⟩
theorem mH.step{q:Nat}{d:dJ}(h:mH q d)(p:Int):mH (q+1) (uO d p):=by
 have hs:=λf=>h.b.step p f
 unfold uO;split
 ·exact h.up<|oA _
 split
 ·exact⟨hs _,h.w.kept _,by simp only[aJK];exact h.s⟩
 ·exact⟨hs _,gn.aBX _ h.w λo J=>Dw<|(hs false).op o (sA J),by simp only[W0];exact h.s⟩
theorem mH.mark{d:dJ}(h:mH q d):mH q (mX d).1:=by
 unfold mX;simp only;split
 ·exact h
 ·exact⟨h.b,h.w.vl _,by simp only[WV];exact h.s⟩
theorem mH.rU{d:dJ}(h:mH q d)(cz:ag):mH q (lx d cz).1:=by
 have hk:=N7 h.w.wu.bM cz;unfold lx;simp only;split
 ·exact h
 ·rename_i aw;have aw:=Decidable.not_not.1 aw;have J:=aJV hk h.s aw;obtain⟨c,l,r, -,h2, -, -,e⟩:=V8 aw;have hd:=aJL hk rfl h2;rw[e]at J ⊢;exact⟨J.up<|bW _,hd.1,by simp only[hd.2];exact h.s⟩
theorem mH.aBF{d:dJ}(h:mH q d):d.c.ops.length<=2200:=fr h.b.ci.ops (by have:=h.b.ci.hT.cap;omega)
structure TV (d:dJ) (o:Ord):Prop where
 sV:jQ 100000 d.c
 w:gn d.w
 ops:∀o∈d.c.ops,hD o
 n:d.c.ops.length<=1000000
 l:(d.c.ops.flatMap eS).length<=1000000000
 aBN:∀x∈(ig d.c o.pick false).ops,hD x
 fh:(ig d.c o.pick false).ops.length<=1000000
 CX:o.cz.length<=1073741824
 B3:∀l r,iJ (iv<|pk d.w.bw o.cz).2.1=some l->ow (iv<|pk d.w.bw o.cz).2.2.1=some r->(l++r).length<=2000
theorem mH.do{d:dJ}(h:mH q d)(aJ:q<=100000){o:Ord}(ad:o.cz.length<=1073741824):TV d o:=by
 have hs:=h.b.step o.pick false;have af:=h.aBF;have hl:=Y4 d.c.ops h.b.op;refine⟨h.b.up aJ,h.w,λo U=>Dw<|h.b.op o U,iV,iV,λx J=>Dw<|hs.op x J,?_,ad,TA (N7 h.w.wu.bM _) h.s⟩
 exact fr hs.ci.ops (by have:=hs.ci.hT.cap;omega)
end Go.Proofs.YtnmamncmpklliaaGreatDoor

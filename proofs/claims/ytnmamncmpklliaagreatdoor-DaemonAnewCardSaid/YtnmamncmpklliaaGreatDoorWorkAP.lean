/- What the functions of this seat answer (16 of 53). No condition. -/
import Derived.Test.YtnmamncmpklliaaGreatDoorWorkAI
set_option linter.unusedSimpArgs false
set_option linter.unusedVariables false
set_option maxRecDepth 100000
set_option maxHeartbeats 16000000
namespace Go.Proofs.YtnmamncmpklliaaGreatDoor
open Go.Proofs.Tryz
theorem aES(b:Bool)(l:List aE)(dir:Int)(y:Nat)(J:Nat->ab->Prop)(K:∀i G L,J i G->J i (G++L))
  (V:∀i (h:i<l.length) G,J i G->pI dir l[i]=false->J (i+1) G)
  (I:∀i (h:i<l.length) G,J i G->pI dir l[i]=true->sJ prog y [ba l[i]] G (λv O=>v=.bool true/\J (i+1) O)) (hl:l.length<=1073741824) (H:ab) (aw:J 0 H):
  dp prog 186 [.func (.yield y) [] [],.cptr [.sl b (l.map ba)],.cptr [.int .i64 dir]] H (λ_ G=>J l.length G):=by
 refine p3 func186 ?_;refine aW ?_;refine cE (ι:=Nat×ab) (λp=>[(0,.func (.yield y) [] []),(2,.cptr [.int .i64 dir]),(6,.sl b<|l.map ba),(7,.int .i64 l.length),(8,.int .i64 p.1)]) (λp=>p.2) (λp=>p.1<=l.length/\J p.1 p.2) (λp=>l.length-p.1) (0,H) ⟨bW _,aw⟩ ?_ rfl ?_
 ·simp[go_sem]
 ·rintro⟨i,G⟩ ⟨hi,gP⟩;simp only at hi gP ⊢;by_cases U:i<l.length
  ·have ad:=di ba U;have T:decide ((i:Int)<(l.length:Int))=true:=cK;have hw:=dA U iV
   have Z:=CZ l[i].fJ.c l[i].fJ.r;by_cases h1:l[i].parent=dir
   ·have hd:decide (l[i].parent=dir)=true:=cD h1;cases h2:o8 l[i].fJ.c l[i].fJ.r with
    |false=>
     rw[h2]at Z;repeat' first|(refine ae ?_;simp only[go_sem,ad,T,hd,ba])|refine ao ?_|fail
     exact⟨(i+1,_),⟨U,V i U _ (K _ _ _ gP)<|by simp[pI,h2]⟩,by simp only;omega,bU _ hw,rfl⟩
    |true=>
     rw[h2]at Z;have z:=I i U _ (K i G [.cells 0 (ba l[i]).cells] gP)<|by simp[pI,h1,h2]
     repeat' first|(refine ae ?_;simp only[go_sem,ad,T,hd,ba])|refine ao ?_|fail
     refine Km z ?_;rintro v O ⟨rfl,HM⟩;simp only[go_sem];repeat' first|(refine ae ?_;simp only[go_sem])|refine ao ?_|fail
     exact⟨(i+1,O),⟨U,HM⟩,by simp only;omega,bU _ hw,rfl⟩
   ·have hd:decide (l[i].parent=dir)=false:=bN h1;repeat' first|(refine ae ?_;simp only[go_sem,ad,T,hd,ba])|refine ao ?_|fail
    exact⟨(i+1,_),⟨U,V i U _ (K _ _ _ gP)<|by simp[pI,h1]⟩,by simp only;omega,bU _ hw,rfl⟩
  ·have eV:i=l.length:=iV
   subst eV;repeat' first|(refine ae ?_;simp only[go_sem])|refine ao ?_|fail
   exact gP
theorem aLM(k:Nat)(b:Bool)(l:List aE):cM k (.sl b<|l.map ba):=(b6.sl b _ (XN l)).cl k
theorem aG6(b:Bool)(l:List aE)(dir:Int)(H:ab):aM prog 146 [.sl b (l.map ba),.int .i64 dir] H (.func (.func 186) [] [.cptr [.sl b (l.map ba)],.cptr [.int .i64 dir]]):=by
 refine aZ func146 ?_;refine aW ?_;refine⟨_,_,rfl,?_,rfl⟩;refine .func _ _ _ _ _ rfl rfl fw (dj (Dj (bd _) nb ?_)<|dj (Dj iV nb ?_) fw)
 ·simp only[dF,forall_eq];exact aLM _ _ _
 ·simp only[dF,forall_eq];exact .int _ _
theorem P0(b:Bool)(l:List aE)(dir:Int)(hl:l.length<=1073741824)(H:ab):
  dp prog 96 [.sl b (l.map ba),.int .i64 dir] H (λv H'=>v=.map H.length/\H'=H++[.map (fR 0<|fz l dir) (fz l dir).length]):=by
 refine tU func96 ?_;repeat' first|((first|refine cx (aG6 _ _ _) ?_|refine ae ?_);simp only[go_sem])|refine ao ?_|fail
 refine G7 [(5,.ref (H.length+1) 0 0),(12,.func (.func 186) [] [.cptr [.sl b (l.map ba)],.cptr [.int .i64 dir]])] (by simp[go_sem]) ?_
 refine Jc rfl aK λy dD V=>?_
 have Rr:(H++[bE.map [] 0,.cells 0 [.map H.length]]).length=H.length+2:=kk
 rw[Rr,dr];let M:Nat->List (ag×aE):=λi=>(l.take i).foldl (mi dir) []
 let e7:Nat->ab->Prop:=λi G=>∃L,G=(H++[.map (fR 0<|M i) (M i).length,.cells 0 [.map H.length],dD])++L
 have nx:∀i (h:i<l.length),M (i+1)=mi dir (M i) l[i]:=λi h=>by
  simp only[M];rw[fj h,u0];rfl
 refine(aES b l dir y e7 (λi G L ⟨eu,e⟩=>⟨eu++L,by rw[e,dr]⟩) (λi h G ⟨L,e⟩ hd=>⟨L,by rw[e,nx i h,mi,aj<|by rw[hd];simp]⟩) (λi h G ⟨L,e⟩ hd=>?_) hl _ ⟨[],by simp[M,fR]⟩).mono λ_ G ⟨L,e⟩=>?_
 ·have oW:=nx i h;rw[mi,aA hd]at oW;have av:ay G H.length=.map (fR 0<|M i) (M i).length:=by rw[e];exact b3 (b:=.map _ _) nb trivial L
  have al:ay G (H.length+1)=.cells 0 [.map H.length]:=by rw[e];exact b3 (b:=.cells _ _) nb trivial L
  have U:ay G (H.length+2)=dD:=by rw[e];exact b3 nb (by rw[V];trivial) L
  have I:dD.live:=by rw[V];trivial
  refine JV U V rfl rfl rfl rfl λK fin Cb xf gK iX=>?_
  have f3:=bC U I;have g3:=gN U I;simp only[wR];refine ud rfl ?_;simp only[go_sem,f3,g3,ba];obtain⟨J,O⟩:∃J,ar G (H.length+2) K=J:=⟨_,rfl⟩;rw[O];have l4:=dk U I;have hlen:G.length=J.length:=by rw[<-O];simp[ar]
  have c3:ay J H.length=.map (fR 0<|M i) (M i).length:=by rw[<-O];exact bY av iV K
  have a2:ay J (H.length+1)=.cells 0 [.map H.length]:=by rw[<-O];exact bY al iV K
  have a3:ay J (H.length+2)=K:=by rw[<-O];exact dR l4 K
  have k1:=bC c3 trivial;have k2:=bC a2 trivial;have k3:=bC a3 xf;have s1:=gN c3 trivial;rw[hlen];have kM:iH .string (fR 0<|M i)=True:=b5<|OZ 0 _;clear V Cb iX;have cH:∀Y,M (i+1)=M i->wi (H.length+2) K fin J (λv dw=>v=.bool true/\e7 (i+1) dw) true none (J++Y):=λY ji=>
   ⟨k3 _,J,Y,rfl,rfl,λ_ _ h=>.inl h,rfl,L,by rw[gK,<-O,jS,lr U I,ji];exact e⟩
  have od:∀Y,M (i+1)=hU l[i].name l[i] (M i)->wi (H.length+2) K fin J (λv dw=>v=.bool true/\e7 (i+1) dw) true none
    (ar J H.length (.map (hL (.str l[i].name) (ba l[i]) (fR 0 (M i)) (M i).length)<|q4 (.str l[i].name) (fR 0 (M i)) (M i).length)++Y):=λY ji=>by
   rw[aGa,<-ji];refine⟨bC (bY a3 iV _) xf _,_,Y,rfl,by rw[bc],pn<|XE _ _ _,rfl,L,?_⟩
   rw[gK,<-O,ub _ _ _ iV,jS,lr U I,e]
   simp[ar]
  rcases XO 0 (M i) l[i].name with⟨aP,aR⟩|⟨o,j,aP,aR⟩
  ·refine bP ba.eq_1 ?_;exact od _<|by rw[oW,rQ,aP]
  ·have z:=O9 l[i].fJ.c l[i].fJ.r o.fJ.c o.fJ.r;cases Z:zG l[i].fJ.c l[i].fJ.r o.fJ.c o.fJ.r with
   |true=>
    rw[Z]at z;refine bP ba.eq_1 ?_;exact cH _<|by rw[oW,rQ,aP];exact aA Z
   |false=>
    rw[Z]at z;refine bP ba.eq_1 ?_;exact od _<|by rw[oW,rQ,aP];exact aj (by rw[Z];simp)
 ·have r2:M l.length=fz l dir:=by simp only[M];rw[eG];rfl
  rw[r2]at e;have av:ay G H.length=.map (fR 0<|fz l dir) (fz l dir).length:=by rw[e];exact b3 (b:=.map _ _) nb trivial L
  have al:ay G (H.length+1)=.cells 0 [.map H.length]:=by rw[e];exact b3 (b:=.cells _ _) nb trivial L
  have U:ay G (H.length+2)=dD:=by rw[e];exact b3 nb (by rw[V];trivial) L
  refine .inl ⟨.ready,kk,U.trans V,λX=>?_⟩
  have bu:=bY al (i:=H.length+2) iV X
  have b9:ar G (H.length+2) X=(H++[.map (fR 0<|fz l dir) (fz l dir).length])++(.cells 0 [.map H.length]::X::L):=by rw[e];simp[ar]
  obtain⟨cW,gg⟩:∃cW,ar G (H.length+2) X=cW:=⟨_,rfl⟩;rw[gg]at bu b9 ⊢;simp only[go_sem];repeat' first|(refine ae ?_;simp only[go_sem,bu])|refine ao ?_|fail
  refine⟨_,_,_,b9,kk,λj cB T=>?_,.cl _<|.map _ kk,rfl,rfl⟩
  by_cases Z:j<H.length
  ·rw[iP Z]at T;exact .inl T
  ·rw[pX iV]at T
   refine .inr ?_;cases hk:j-H.length with
   |zero=>rw[hk]at T;cases T;exact XE _ _ _
   |succ k=>rw[hk]at T;simp at T
def zf(o:Option aE):I:=.aQ [.int .i64 ((o.map (·.id)).getD 0),.bool o.isSome]
theorem Ko(b:Bool)(l:List aE)(dir:Int)(s:ag)(hl:l.length<=1073741824)(H:ab):aM prog 296 [.sl b (l.map ba),.int .i64 dir,.str s] H (zf<|fx l dir s):=by
 refine aZ func296 ?_;cases hs:cp l with
 |false=>
  have he:fx l dir s=none:=by simp[fx,hs]
  rw[he];repeat' first|((first|refine cx (lN _ _) ?_|refine ae ?_);simp only[go_sem,hs])|refine ao ?_|fail
  exact bD<|.refl _
 |true=>
  have he:fx l dir s=ht s (fz l dir):=by simp[fx,hs]
  rw[he];repeat' first|((first|refine cx (lN _ _) ?_|refine ae ?_);simp only[go_sem,hs])|refine ao ?_|fail
  refine dU (P0 b l dir hl H) aK ?_;rintro v H' ⟨rfl,rfl⟩;have U:iH .string (fR 0<|fz l dir)=True:=b5<|OZ 0 _;rcases XO 0 (fz l dir) s with⟨aP,J⟩|⟨o,j,aP,J⟩
  ·rw[aP];simp only[go_sem,U,J];refine bP ba.eq_1 ?_;exact aV<|.refl _
  ·rw[aP];simp only[go_sem,U,J,ba];refine bP ba.eq_1 ?_;exact aV<|.refl _
def uL(r:Int×Int):I:=.aQ [.int .i64 r.1,.int .i64 r.2]
theorem aD0(l:List aE)(at_:Int)(s:ag)(names:List ag):iG l at_ (s::names)=if dm at_=true then(match fx l at_ s with|some n=>iG l n.id names|none=>(0,80))else(0,81):=rfl
theorem JN(b O:Bool)(l:List aE)(names:List ag)(hl:l.length<=1073741824)(H:ab):aM prog 327 [.sl b (l.map ba),.sl O<|names.map I.str] H (uL<|fp l names):=by
 refine po λ_ T=>?_
 have af:=oi T;rw[cv]at af;refine aZ func327 ?_;refine aW ?_;refine cE (ι:=Nat×Int) (λp=>[(0,.sl b<|l.map ba),(11,.sl O<|names.map I.str),(12,.int .i64 names.length),(13,.int .i64 p.1),(6,.int .i64 p.2)]) (λ_=>H) (λp=>p.1<=names.length/\fp l names=iG l p.2 (names.drop p.1)) (λp=>names.length-p.1) (0,0) ⟨bW _,rfl⟩ ?_ rfl ?_
 ·simp[go_sem]
 ·rintro⟨i,at_⟩ ⟨hi,he⟩
  simp only at hi he ⊢;by_cases U:i<names.length
  ·have ad:=di I.str U;have J:decide ((i:Int)<(names.length:Int))=true:=cK;have hw:=dA U af;have hd:=uV at_
   have K:=Ko b l at_ names[i] hl
   rw[ij U,aD0]at he;cases h1:dm at_ with
   |false=>
    rw[h1]at hd he;repeat' first|(refine ae ?_;simp only[go_sem,ad,J])|refine ao ?_|fail
    exact bD<|.of (by rw[he];rfl)
   |true=>
    rw[h1,aA rfl]at he;rw[h1]at hd;cases h2:fx l at_ names[i]with
    |none=>
     rw[h2]at K he;simp only[zf,Dm,Dt,Dn]at K;repeat' first|(refine ae ?_;simp only[go_sem,ad,J])|refine ao ?_|fail
     exact bD<|.of (by rw[he];rfl)
    |some n=>
     rw[h2]at K he;simp only[zf,wC,pW,zn]at K;repeat' first|(refine ae ?_;simp only[go_sem,ad,J])|refine ao ?_|fail
     exact⟨(i+1,n.id),⟨U,he⟩,by simp only;omega,bU _ hw,rfl⟩
  ·have V:i=names.length:=iV
   subst V;have J:decide ((names.length:Int)<(names.length:Int))=false:=kk
   repeat' first|(refine ae ?_;simp only[go_sem,J])|refine ao ?_|fail
   exact bD<|.of (by rw[he,oy];rfl)
section
open Go.ChangeShapes Go.WideShapes Go.ChangeAt Go.RowKit
theorem own:ownKnob prog.godebug=none:=n2
theorem ux:laidOutB prog=true:=n2
theorem aLN:pt prog 5=false:=n2
theorem K6{x:I}(h:∃ys,x=nI prog 5 ys/\kd prog 5 ys/\(pt prog 5=true\/ys.length=1)):∃n,x=.int .u8 n:=by
 obtain⟨ys,rfl,h,_⟩:=h;obtain⟨n,rfl,hw⟩:=G8 underlying5 h;exact⟨n,by rw[nI,aj<|by rw[aLN];decide];rfl⟩
end
end Go.Proofs.YtnmamncmpklliaaGreatDoor

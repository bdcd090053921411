/- What the functions of this seat answer (34 of 53). No condition. -/
import Derived.Test.YtnmamncmpklliaaGreatDoorWorkBG
set_option linter.unusedSimpArgs false
set_option linter.unusedVariables false
set_option maxRecDepth 100000
set_option maxHeartbeats 16000000
namespace Go.Proofs.YtnmamncmpklliaaGreatDoor
open Go.Proofs.Tryz
def MP:List cu:=[.pure 0,.pure 0,.pure 0,.free,.pure 0,.pure 0,.eff [false,false,false,false,false]]
attribute [go_sem] MP
theorem aIS(s y:I)(f1 f2 f3:Bool)(t:bz)(H:ab):aM prog 359 [.agg [],s,hy f1 f2 f3 t] H (rC ⟨3,0⟩):=by
 refine aZ func359 ?_;unfold hy kz;refine aW ?_;exact aV<|.refl _
theorem aGW(b f1 f2 f3:Bool)(l:List aE)(t:bz)(ad:t.call.path.length<=1048576)(ah:t.call.to.length<=1048576)(hl:l.length<=1073741824)(H:ab):
  aM prog 361 [c4 t.call,.sl b<|l.map ba,hy f1 f2 f3 t] H (rC<|nP t.has (iq l t.call)):=by
 refine aZ func361 ?_;have T:=aIR b l t.call ad ah hl;obtain⟨bM,V⟩:∃bM,iq l t.call=bM:=⟨_,rfl⟩;rw[V]at T ⊢;have z:bM.length<=1000:=by
  rw[<-V];have:=aEr l t.call;omega
 unfold hy kz;simp only[c4]at T ⊢;repeat' first|(refine ae ?_;simp only[go_sem])|refine ao ?_|fail
 refine cE (ι:=Nat) (λk=>[(5,.ref (H.length+1) 0 0),(6,.ref (H.length+2) 0 0),(11,.sl false<|bM.map bq),(12,.int .i64 bM.length),(13,.int .i64 k)]) (λ_=>H++[.cells 0 (c4 t.call).cells,.cells 0 (hy f1 f2 f3 t).cells,.cells 0 [.int .i64 0,.int .i64 0]]) (λk=>k<=bM.length/\nP t.has bM=nP t.has (bM.drop k)) (λk=>bM.length-k) 0 ⟨bW _,rfl⟩ ?_ rfl ?_
 ·simp[go_sem]
 ·rintro k ⟨hk,he⟩;by_cases J:k<bM.length
  ·have Z:=di bq J;have K:decide ((k:Int)<(bM.length:Int))=true:=cK;have hw:IntKind.i64.wrap ((k:Int)+1)=((k+1:Nat):Int):=by rw[bI];omega
   have O:=Jg f1 t.has bM[k];rw[Xl]at O;rw[ij J]at he;cases U:t.has.contains bM[k]with
   |true=>
    rw[Uv U]at he;rw[U]at O;repeat' first|(refine ae ?_;simp only[go_sem,Z,K,c4,hy,kz,bq])|refine ao ?_|fail
    first
     |exact⟨k+1,⟨J,he⟩,iV,bU _ hw⟩
     |exact⟨k+1,⟨J,he⟩,iV,bU _ hw,rfl⟩
   |false=>
    rw[Og U]at he;rw[U]at O;rw[he];repeat' first|(refine ae ?_;simp only[go_sem,Z,K,c4,hy,kz,bq])|refine ao ?_|fail
    exact aV<|.refl _
  ·have I:k=bM.length:=iV
   subst I;have K:decide ((bM.length:Int)<(bM.length:Int))=false:=kk
   rw[oy]at he;rw[he];refine bP (gP c4.eq_1<|gP hy.eq_1 kz.eq_1) ?_;exact aV<|.refl _
theorem aGX(b f1 f2 f3 f4:Bool)(l:List aE)(names:List ag)(t:bz)(hl:l.length<=1073741824)(af:names.length<=16)(H:ab):
  aM prog 360 [.agg [.sl f4 (names.map I.str)],.sl b<|l.map ba,hy f1 f2 f3 t] H (rC<|uW l names t):=by
 refine aZ func360 ?_;unfold hy kz;rcases an:t.has with _|⟨here,_|⟨h2,hs⟩⟩
 ·rw[uW,an];simp only[hj];refine aW ?_;exact aV<|.refl _
 ·have av:decide (((1:Nat):Int)=0)=false:=rfl;have al:((0:Int)<((1:Nat):Int))=True:=b5 iV
  have V:decide ((1:Int)<((1:Nat):Int))=false:=rfl;have ax:=JN b f4 l names hl;obtain⟨⟨d,e⟩,q7⟩:∃r,fp l names=r:=⟨_,rfl⟩;rw[uW,an];simp only[q7]at ax ⊢;simp only[uL]at ax;have T:=uV d;simp only[dz,hj];by_cases aw:0<=t.at_
  ·have Z:decide (0<=t.at_)=true:=cD aw;rw[aA aw];by_cases ak:t.at_.toNat<names.length
   ·have z:decide (t.at_<(names.length:Int))=true:=cK;have qi:(0<=t.at_/\t.at_<(names.length:Int))=True:=b5 ⟨aw,iV⟩
    have aL:=di I.str ak;rw[da ak];simp only[fZ];have iW:=Ko b l here names[t.at_.toNat] hl;cases au:fx l here names[t.at_.toNat]with
    |none=>
     rw[au]at iW;simp only[zf,Dm,Dt,Dn]at iW ⊢;by_cases U:e=0
     ·subst U;cases K:dm d with
      |false=>
       rw[K]at T;rw[aj (by rintro⟨_,h,_⟩;cases h)]
       refine bP (gP bq.eq_1 @qQ) ?_;exact aV<|.refl _
      |true=>
       rw[K]at T;by_cases J:d=here
       ·rw[aj (λh=>h.2.2 J)]
        have O:decide (d=here)=true:=cD J;repeat' first|(refine ae ?_;simp only[go_sem,av,al,V,bq,Z,z,qi,aL,O,qQ])|refine ao ?_|fail
        exact aV<|.refl _
       ·rw[aA ⟨rfl,rfl,J⟩];have O:decide (d=here)=false:=bN J;refine bP bq.eq_1 ?_;exact aV<|.refl _
     ·rw[aj (λh=>U h.1)]
      have EP:decide (e=0)=false:=bN U;refine bP bq.eq_1 ?_;exact aV<|.refl _
    |some n=>
     rw[au]at iW;have lG:=uV n.id;simp only[zf,wC,pW,zn]at iW ⊢;cases eC:dm n.id with
     |true=>
      rw[eC]at lG;rw[aA rfl];refine bP bq.eq_1 ?_;exact aV<|.refl _
     |false=>
      rw[eC]at lG;rw[aj (λh=>by cases h)]
      by_cases U:e=0
      ·subst U;cases K:dm d with
       |false=>
        rw[K]at T;rw[aj (by rintro⟨_,h,_⟩;cases h)]
        refine bP bq.eq_1 ?_;exact aV<|.refl _
       |true=>
        rw[K]at T;by_cases J:d=here
        ·rw[aj (λh=>h.2.2 J)]
         have O:decide (d=here)=true:=cD J;repeat' first|(refine ae ?_;simp only[go_sem,av,al,V,bq,Z,z,qi,aL,O,qQ])|refine ao ?_|fail
         exact aV<|.refl _
        ·rw[aA ⟨rfl,rfl,J⟩];have O:decide (d=here)=false:=bN J;refine bP bq.eq_1 ?_;exact aV<|.refl _
      ·rw[aj (λh=>U h.1)]
       have EP:decide (e=0)=false:=bN U;refine bP bq.eq_1 ?_;exact aV<|.refl _
   ·have z:decide (t.at_<(names.length:Int))=false:=cQ;rw[tA iV]
    simp only[Option.bind_none];by_cases U:e=0
    ·subst U;cases K:dm d with
     |false=>
      rw[K]at T;rw[aj (by rintro⟨_,h,_⟩;cases h)]
      refine bP bq.eq_1 ?_;exact aV<|.refl _
     |true=>
      rw[K]at T;by_cases J:d=here
      ·rw[aj (λh=>h.2.2 J)]
       have O:decide (d=here)=true:=cD J;repeat' first|(refine ae ?_;simp only[go_sem,av,al,V,bq,Z,z,O,qQ])|refine ao ?_|fail
       exact aV<|.refl _
      ·rw[aA ⟨rfl,rfl,J⟩];have O:decide (d=here)=false:=bN J;refine bP bq.eq_1 ?_;exact aV<|.refl _
    ·rw[aj (λh=>U h.1)]
     have EP:decide (e=0)=false:=bN U;refine bP bq.eq_1 ?_;exact aV<|.refl _
  ·have Z:decide (0<=t.at_)=false:=bN aw;rw[aj aw];simp only[Option.bind_none];by_cases U:e=0
   ·subst U;cases K:dm d with
    |false=>
     rw[K]at T;rw[aj (by rintro⟨_,h,_⟩;cases h)]
     refine bP bq.eq_1 ?_;exact aV<|.refl _
    |true=>
     rw[K]at T;by_cases J:d=here
     ·rw[aj (λh=>h.2.2 J)]
      have O:decide (d=here)=true:=cD J;repeat' first|(refine ae ?_;simp only[go_sem,av,al,V,bq,Z,O,qQ])|refine ao ?_|fail
      exact aV<|.refl _
     ·rw[aA ⟨rfl,rfl,J⟩];have O:decide (d=here)=false:=bN J;refine bP bq.eq_1 ?_;exact aV<|.refl _
   ·rw[aj (λh=>U h.1)]
    have EP:decide (e=0)=false:=bN U;refine bP bq.eq_1 ?_;exact aV<|.refl _
 ·rw[uW,an];have av:decide (((hs.length+2:Nat):Int)=0)=false:=cQ;have al:((0:Int)<((hs.length+2:Nat):Int))=True:=b5 iV
  have V:decide ((1:Int)<((hs.length+2:Nat):Int))=true:=cK;simp only[dz];refine bP bq.eq_1 ?_;exact aV<|.refl _
theorem aIT(b f1 f2 f3:Bool)(l:List aE)(t:bz)(ad:t.call.path.length<=1048576)(ah:t.call.to.length<=1048576)(hl:l.length<=1073741824)(H:ab):
  aM prog 119 [.sl b (l.map ba),hy f1 f2 f3 t] H (rC<|ev l t):=by
 refine aZ func119 ?_;unfold hy kz;unfold ev;cases J:t.ended with
 |true=>
  rw[aA rfl];refine aW ?_;exact aV<|.refl _
 |false=>
  rw[aj (λh=>by cases h)]
  cases U:t.done with
  |true=>
   rw[aA rfl];cases T:t.has with
   |nil=>
    simp only[hj];by_cases hk:t.call.kind=12
    ·have av:decide (t.call.kind=12)=true:=cD hk;rw[aA hk];refine hH ?_;exact aV<|.refl _
    ·have av:decide (t.call.kind=12)=false:=bN hk;rw[aj hk];refine hH ?_;exact aV<|.refl _
   |cons k bM=>
    have al:((0:Int)<((bM.length+1:Nat):Int))=True:=b5 iV
    have V:decide ((0:Int)<((bM.length+1:Nat):Int))=true:=cK;simp only[dz];refine bP bq.eq_1 ?_;exact aV<|.refl _
  |false=>
   rw[aj (λh=>by cases h)]
   have hw:=PS t.call ad;unfold BV at hw;cases K:fQ t.call with
   |true=>
    rw[K,aA rfl]at hw;rw[aA rfl];simp only[c4]at hw;have af:=λH=>aGW b f1 f2 f3 l t ad ah hl H
    unfold hy kz at af;simp only[c4,J,U,rC]at af;repeat' first|((first|refine oK (af _) aK ?_|refine oL (λ_=>af _) aK ?_|refine oM (λ_=>af _) aK ?_|refine mx [9] MP ?_|refine ae ?_);simp only[go_sem,rC])|refine ao ?_|fail
    exact aV<|.refl _
   |false=>
    rw[K,aj λh=>by cases h]at hw
    rw[aj (λh=>by cases h)]
    cases O:hA t.call with
    |true=>
     rw[O,aA rfl]at hw;rw[aA rfl];simp only[c4]at hw;have af:=λH=>aGX b f1 f2 f3 false l (hB t.call) t hl (Oh _) H
     unfold hy kz at af;simp only[J,U,rC]at af;repeat' first|((first|refine oK (af _) aK ?_|refine oL (λ_=>af _) aK ?_|refine oM (λ_=>af _) aK ?_|refine mx [9] MP ?_|refine ae ?_);simp only[go_sem,rC])|refine ao ?_|fail
     exact aV<|.refl _
    |false=>
     rw[O,aj λh=>by cases h]at hw
     rw[aj (λh=>by cases h)]
     simp only[c4]at hw;have af:=λH=>aIS (.sl b<|l.map ba) .top f1 f2 f3 t H
     unfold hy kz at af;simp only[c4,J,U,rC]at af;repeat' first|((first|refine oK (af _) aK ?_|refine oL (λ_=>af _) aK ?_|refine oM (λ_=>af _) aK ?_|refine mx [9] MP ?_|refine ae ?_);simp only[go_sem,rC])|refine ao ?_|fail
     exact aV<|.refl _
end Go.Proofs.YtnmamncmpklliaaGreatDoor

/- What functions answer. No condition. -/
import Derived.Test.YtnmamncmpklliaaGreatDoorWorkK
set_option linter.unusedSimpArgs false
set_option linter.unusedVariables false
set_option maxRecDepth 100000
set_option maxHeartbeats 16000000
namespace Go.Proofs.YtnmamncmpklliaaGreatDoor
open Go.Proofs.Tryz
def NA:List cK:=[.ah 0,.ah 0,.ah 0,.aQ,.ah 0,.ah 0,.bW []]
attribute [go_sem] NA
theorem aJh(s y:I)(f1 f2 f3:Bool)(t:bF)(H:ab):aO prog 359 [.agg [],s,iJ f1 f2 f3 t] H (ru ⟨3,0⟩):=by refine bg func359 ?_;unfold iJ kT;refine a7 ?_;exact aX<|.refl _
theorem aHL(b f1 f2 f3:Bool)(l:List aH)(t:bF)(ad:t.call.path.length<=1048576)(ag:t.call.to.length<=1048576)(hl:l.length<=1073741824)(H:ab):
  aO prog 361 [cy t.call,.sl b<|l.map bj,iJ f1 f2 f3 t] H (ru<|nF t.has (iH l t.call)):=by
 refine bg func361 ?_;have S:=aJg b l t.call ad ag hl;obtain⟨bO,T⟩:∃bO,iH l t.call=bO:=⟨_,rfl⟩;rw[T]at S ⊢;have I:bO.length<=1000:=by rw[<-T];have:=aE5 l t.call;omega
 unfold iJ kT;simp only[cy]at S ⊢;repeat' first|(refine ae ?_;simp only[go_sem])|refine ai ?_|fail
 refine c7 (ι:=Nat) (λk=>[(5,.ref (H.length+1) 0 0),(6,.ref (H.length+2) 0 0),(11,.sl false<|bO.map bu),(12,.int .i64 bO.length),(13,.int .i64 k)]) (λ_=>H++[.cells 0 (cy t.call).cells,.cells 0 (iJ f1 f2 f3 t).cells,.cells 0 [.int .i64 0,.int .i64 0]]) (λk=>k<=bO.length/\nF t.has bO=nF t.has (bO.drop k)) (λk=>bO.length-k) 0 ⟨cb _,rfl⟩ ?_ rfl ?_
 ·simp[go_sem]
 ·rintro k ⟨hk,he⟩;by_cases J:k<bO.length
  ·have V:=ek bu J;have K:decide ((k:Int)<(bO.length:Int))=true:=cS;have hw:IntKind.i64.wrap ((k:Int)+1)=((k+1:Nat):Int):=by rw[bS];omega
   have O:=Ka f1 t.has bO[k];rw[X8]at O;rw[ir J]at he;cases U:t.has.contains bO[k]with
   |true=>
    rw[Vd U]at he;rw[U]at O;repeat' first|(refine ae ?_;simp only[go_sem,V,K,cy,iJ,kT,bu])|refine ai ?_|fail
    first
     |exact⟨k+1,⟨J,he⟩,gf,b7 _ hw⟩
     |exact⟨k+1,⟨J,he⟩,gf,b7 _ hw,rfl⟩
   |false=>
    rw[OV U]at he;rw[U]at O;rw[he];repeat' first|(refine ae ?_;simp only[go_sem,V,K,cy,iJ,kT,bu])|refine ai ?_|fail
    exact aX<|.refl _
  ·have Z:k=bO.length:=gf;subst Z;have K:decide ((bO.length:Int)<(bO.length:Int))=false:=hW;rw[qD]at he;rw[he];refine bL (hj cy.eq_1<|hj iJ.eq_1 kT.eq_1) ?_;exact aX<|.refl _
theorem aHM(b f1 f2 f3 f4:Bool)(l:List aH)(names:List al)(t:bF)(hl:l.length<=1073741824)(af:names.length<=16)(H:ab):
  aO prog 360 [.agg [.sl f4 (names.map I.str)],.sl b<|l.map bj,iJ f1 f2 f3 t] H (ru<|vd l names t):=by
 refine bg func360 ?_;unfold iJ kT;rcases ak:t.has with _|⟨here,_|⟨h2,hs⟩⟩
 ·rw[vd,ak];simp only[jm];refine a7 ?_;exact aX<|.refl _
 ·have ax:decide (((1:Nat):Int)=0)=false:=rfl;have T:((0:Int)<((1:Nat):Int))=True:=b1 gf;have aU:decide ((1:Int)<((1:Nat):Int))=false:=rfl;have aA:=KD b f4 l names hl;obtain⟨⟨d,e⟩,qX⟩:∃r,fp l names=r:=⟨_,rfl⟩;rw[vd,ak];simp only[qX]at aA ⊢;simp only[u4]at aA;have S:=va d;simp only[dO,jm];by_cases ay:0<=t.at_
  ·have V:decide (0<=t.at_)=true:=dr ay;rw[aC ay];by_cases av:t.at_.toNat<names.length
   ·have Z:decide (t.at_<(names.length:Int))=true:=cS;have p0:(0<=t.at_/\t.at_<(names.length:Int))=True:=b1 ⟨ay,gf⟩;have aP:=ek I.str av;rw[dn av];simp only[e6];have z:=La b l here names[t.at_.toNat] hl;cases ao:fz l here names[t.at_.toNat]with
    |none=>
     rw[ao]at z;simp only[zs,DV,DO,DP]at z ⊢;by_cases U:e=0
     ·subst U;cases K:dv d with
      |false=>
       rw[K]at S;rw[ar (by rintro⟨_,h,_⟩;cases h)]
       refine bL (hj bu.eq_1 @qB) ?_;exact aX<|.refl _
      |true=>
       rw[K]at S;by_cases J:d=here
       ·rw[ar (λh=>h.2.2 J)];have O:decide (d=here)=true:=dr J;repeat' first|(refine ae ?_;simp only[go_sem,ax,T,aU,bu,V,Z,p0,aP,O,qB])|refine ai ?_|fail
        exact aX<|.refl _
       ·rw[aC ⟨rfl,rfl,J⟩];have O:decide (d=here)=false:=b0 J;refine bL bu.eq_1 ?_;exact aX<|.refl _
     ·rw[ar (λh=>U h.1)];have FA:decide (e=0)=false:=b0 U;refine bL bu.eq_1 ?_;exact aX<|.refl _
    |some n=>
     rw[ao]at z;have kJ:=va n.id;simp only[zs,vj,o0,wX]at z ⊢;cases eH:dv n.id with
     |true=>rw[eH]at kJ;rw[aC rfl];refine bL bu.eq_1 ?_;exact aX<|.refl _
     |false=>
      rw[eH]at kJ;rw[ar (λh=>p2 h)];by_cases U:e=0
      ·subst U;cases K:dv d with
       |false=>
        rw[K]at S;rw[ar (by rintro⟨_,h,_⟩;cases h)]
        refine bL bu.eq_1 ?_;exact aX<|.refl _
       |true=>
        rw[K]at S;by_cases J:d=here
        ·rw[ar (λh=>h.2.2 J)];have O:decide (d=here)=true:=dr J;repeat' first|(refine ae ?_;simp only[go_sem,ax,T,aU,bu,V,Z,p0,aP,O,qB])|refine ai ?_|fail
         exact aX<|.refl _
        ·rw[aC ⟨rfl,rfl,J⟩];have O:decide (d=here)=false:=b0 J;refine bL bu.eq_1 ?_;exact aX<|.refl _
      ·rw[ar (λh=>U h.1)];have FA:decide (e=0)=false:=b0 U;refine bL bu.eq_1 ?_;exact aX<|.refl _
   ·have Z:decide (t.at_<(names.length:Int))=false:=dA;rw[wW gf];simp only[Option.bind_none];by_cases U:e=0
    ·subst U;cases K:dv d with
     |false=>
      rw[K]at S;rw[ar (by rintro⟨_,h,_⟩;cases h)]
      refine bL bu.eq_1 ?_;exact aX<|.refl _
     |true=>
      rw[K]at S;by_cases J:d=here
      ·rw[ar (λh=>h.2.2 J)];have O:decide (d=here)=true:=dr J;repeat' first|(refine ae ?_;simp only[go_sem,ax,T,aU,bu,V,Z,O,qB])|refine ai ?_|fail
       exact aX<|.refl _
      ·rw[aC ⟨rfl,rfl,J⟩];have O:decide (d=here)=false:=b0 J;refine bL bu.eq_1 ?_;exact aX<|.refl _
    ·rw[ar (λh=>U h.1)];have FA:decide (e=0)=false:=b0 U;refine bL bu.eq_1 ?_;exact aX<|.refl _
  ·have V:decide (0<=t.at_)=false:=b0 ay;rw[ar ay];simp only[Option.bind_none];by_cases U:e=0
   ·subst U;cases K:dv d with
    |false=>
     rw[K]at S;rw[ar (by rintro⟨_,h,_⟩;cases h)]
     refine bL bu.eq_1 ?_;exact aX<|.refl _
    |true=>
     rw[K]at S;by_cases J:d=here
     ·rw[ar (λh=>h.2.2 J)];have O:decide (d=here)=true:=dr J;repeat' first|(refine ae ?_;simp only[go_sem,ax,T,aU,bu,V,O,qB])|refine ai ?_|fail
      exact aX<|.refl _
     ·rw[aC ⟨rfl,rfl,J⟩];have O:decide (d=here)=false:=b0 J;refine bL bu.eq_1 ?_;exact aX<|.refl _
   ·rw[ar (λh=>U h.1)];have FA:decide (e=0)=false:=b0 U;refine bL bu.eq_1 ?_;exact aX<|.refl _
 ·rw[vd,ak];have ax:decide (((hs.length+2:Nat):Int)=0)=false:=dA;have T:((0:Int)<((hs.length+2:Nat):Int))=True:=b1 gf;have aU:decide ((1:Int)<((hs.length+2:Nat):Int))=true:=cS;simp only[dO];refine bL bu.eq_1 ?_;exact aX<|.refl _
theorem aJi(b f1 f2 f3:Bool)(l:List aH)(t:bF)(ad:t.call.path.length<=1048576)(ag:t.call.to.length<=1048576)(hl:l.length<=1073741824)(H:ab):
  aO prog 119 [.sl b (l.map bj),iJ f1 f2 f3 t] H (ru<|fX l t):=by
 refine bg func119 ?_;unfold iJ kT;unfold fX;cases J:t.ended with
 |true=>rw[aC rfl];refine a7 ?_;exact aX<|.refl _
 |false=>
  rw[ar (λh=>p2 h)];cases U:t.done with
  |true=>
   rw[aC rfl];cases S:t.has with
   |nil=>
    simp only[jm];by_cases hk:t.call.kind=12
    ·have ax:decide (t.call.kind=12)=true:=dr hk;rw[aC hk];refine hH ?_;exact aX<|.refl _
    ·have ax:decide (t.call.kind=12)=false:=b0 hk;rw[ar hk];refine hH ?_;exact aX<|.refl _
   |cons k bO=>have T:((0:Int)<((bO.length+1:Nat):Int))=True:=b1 gf;have aU:decide ((0:Int)<((bO.length+1:Nat):Int))=true:=cS;simp only[dO];refine bL bu.eq_1 ?_;exact aX<|.refl _
  |false=>
   rw[ar (λh=>p2 h)];have hw:=Qv t.call ad;unfold Ch at hw;cases K:fZ t.call with
   |true=>
    rw[K,aC rfl]at hw;rw[aC rfl];simp only[cy]at hw;have af:=λH=>aHL b f1 f2 f3 l t ad ag hl H;unfold iJ kT at af;simp only[cy,J,U,ru]at af;repeat' first|((first|refine oz (af _) aI ?_|refine oA (λ_=>af _) aI ?_|refine oB (λ_=>af _) aI ?_|refine mx [9] NA ?_|refine ae ?_);simp only[go_sem,ru])|refine ai ?_|fail
    exact aX<|.refl _
   |false=>
    rw[K,ar λh=>p2 h]at hw;rw[ar (λh=>p2 h)];cases O:hB t.call with
    |true=>
     rw[O,aC rfl]at hw;rw[aC rfl];simp only[cy]at hw;have af:=λH=>aHM b f1 f2 f3 false l (hQ t.call) t hl (OW _) H;unfold iJ kT at af;simp only[J,U,ru]at af;repeat' first|((first|refine oz (af _) aI ?_|refine oA (λ_=>af _) aI ?_|refine oB (λ_=>af _) aI ?_|refine mx [9] NA ?_|refine ae ?_);simp only[go_sem,ru])|refine ai ?_|fail
     exact aX<|.refl _
    |false=>
     rw[O,ar λh=>p2 h]at hw;rw[ar (λh=>p2 h)];simp only[cy]at hw;have af:=λH=>aJh (.sl b<|l.map bj) .top f1 f2 f3 t H
     unfold iJ kT at af;simp only[cy,J,U,ru]at af;repeat' first|((first|refine oz (af _) aI ?_|refine oA (λ_=>af _) aI ?_|refine oB (λ_=>af _) aI ?_|refine mx [9] NA ?_|refine ae ?_);simp only[go_sem,ru])|refine ai ?_|fail
     exact aX<|.refl _
end Go.Proofs.YtnmamncmpklliaaGreatDoor

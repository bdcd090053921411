/- What the functions of this seat answer (8 of 53). No condition. -/
import Derived.Test.YtnmamncmpklliaaGreatDoorWorkAG
set_option linter.unusedSimpArgs false
set_option linter.unusedVariables false
set_option maxRecDepth 100000
set_option maxHeartbeats 16000000
namespace Go.Proofs.YtnmamncmpklliaaGreatDoor
open Go.Proofs.Tryz
def Ac:List cu:=[.pure 0,.pure 0,.pure 0,.pure 0,.pure 0,.pure 0,.pure 0,.eff [false,true,true,true,true,false,false],.pure 0,.eff [false,true,true,false,false],.pure 0,.eff [false,false,false]]
def Ad:List cu:=[.pure 0,.pure 0,.pure 0,.pure 0,.pure 0,.eff [false,true,true,false,false],.pure 0,.eff [false,false,false]]
def Ae:List cu:=[.pure 0,.free,.free,.pure 0,.free,.pure 0,.pure 0,.free,.eff [false,false,false,false]]
attribute [go_sem] Ac Ad Ae
theorem aIn(l:List aE)(o:aX)(hs:cp l=true)(hl:l.length<=1000000000)(H:ab)(i j:Nat)(b:Bool)
  (hi:ay H i=.cells 0 [.int .i64 o.at_.c,.int .i64 o.at_.r,.int .i64 o.kind,.int .i64 o.node,.int .i64 o.parent,.str o.name,.str o.data]) (J:ay H j=.cells 0 [.sl b (l.map ba)]):
  aM prog 182 [.ref i 0 0,.ref j 0 0] H (.bool<|uP l o):=by
 refine aZ func182 ?_;have U:=Ws b l o.parent hs iV H
 repeat' first|((first|refine jg U ?_|refine cx (Jg _ _ _) ?_|refine ae ?_);simp only[go_sem,hi,J])|refine ao ?_|fail
 refine bD<|.of ?_;rw[uP]
theorem YX(b:Bool)(l:List aE)(o:aX)(hs:hD o)(hl:l.length<=1000000000)(H:ab):aM prog 132 [.sl b (l.map ba),bh o] H (.aQ [.sl false ((dX l o).map ba),xS<|kh l o]):=by
 refine aZ func132 ?_;have bn:=Dd o hs;have jF:=Wu b l hl;simp only[bh]at bn ⊢;cases J:cp l with
 |false=>
  have V:refused l o=true:=by simp[refused,J]
  rw[dX,aA V,kh,aA V];repeat' first|((first|refine cx (lN _ _) ?_|refine mx [15] Ac ?_|refine mx [16] Ad ?_|refine mx [17] Ae ?_|refine ae ?_);simp only[go_sem,J])|refine ao ?_|fail
  exact aV<|.refl _
 |true=>
  cases K:b0 o with
  |false=>
   have V:refused l o=true:=by simp[refused,K]
   rw[dX,aA V,kh,aA V];repeat' first|((first|refine cx (lN _ _) ?_|refine mx [15] Ac ?_|refine mx [16] Ad ?_|refine mx [17] Ae ?_|refine ae ?_);simp only[go_sem,J,K])|refine ao ?_|fail
   exact aV<|.refl _
  |true=>
   have ek:=Kg b l o.node J;have xg:=Pw b true l;have Z:=Kf l o.node J;have jm:=λH i j hi aq=>aIn l o J hl H i j b hi aq
   by_cases hk:o.kind=1
   ·have O:decide (o.kind=1)=true:=cD hk;cases T:uP l o with
    |true=>
     have V:refused l o=true:=by simp[refused,hk,T]
     rw[dX,aA V,kh,aA V];repeat' first|((first|refine cx (lN _ _) ?_|refine oK (jm _ _ _ (by simp only[go_sem,J,K,O,T])<|by simp only[go_sem,J,K,O,T]) aK ?_|refine oL (λ_=>jm _ _ _ (by simp only[go_sem,J,K,O,T])<|by simp only[go_sem,J,K,O,T]) aK ?_|refine oM (λ_=>jm _ _ _ (by simp only[go_sem,J,K,O,T])<|by simp only[go_sem,J,K,O,T]) aK ?_|refine mx [15] Ac ?_|refine mx [16] Ad ?_|refine mx [17] Ae ?_|refine ae ?_);simp only[go_sem,J,K,O,T])|refine ao ?_|fail
     exact aV<|.refl _
    |false=>
     have V:¬refused l o=true:=by simp[refused,J,K,T]
     cases U:hq l o.node with
     |true=>
      have ak:=v8 J U;have ad:=di ba ak;have hw:=dA ak<|show l.length<=9223372036854775807 by omega
      have I:=Ke J U;have e:je l o=⟨l[pos l o.node].id,o.parent,o.name,o.at_,l[pos l o.node].data,l[pos l o.node].wrote⟩:=by
       unfold je pM;rw[aA hk,I]
      have z:upto l o.node=pos l o.node+1:=by rw[upto,aA U]
      rw[z]at Z;have dd:=xg [⟨l[pos l o.node].id,o.parent,o.name,o.at_,l[pos l o.node].data,l[pos l o.node].wrote⟩] (pos l o.node) (pos l o.node+1) Z.1 Z.2 nX
      simp only[dz,hj,ba]at dd;rw[dX,aj V,kh,aj V,e,z,I];repeat' first|((first|refine cx (lN _ _) ?_|refine oK (jm _ _ _ (by simp only[go_sem,J,K,O,U,T,ad,hw,ba])<|by simp only[go_sem,J,K,O,U,T,ad,hw,ba]) aK ?_|refine oL (λ_=>jm _ _ _ (by simp only[go_sem,J,K,O,U,T,ad,hw,ba])<|by simp only[go_sem,J,K,O,U,T,ad,hw,ba]) aK ?_|refine oM (λ_=>jm _ _ _ (by simp only[go_sem,J,K,O,U,T,ad,hw,ba])<|by simp only[go_sem,J,K,O,U,T,ad,hw,ba]) aK ?_|refine mx [15] Ac ?_|refine mx [16] Ad ?_|refine mx [17] Ae ?_|refine ae ?_);simp only[go_sem,J,K,O,U,T,ad,hw,ba])|refine ao ?_|fail
      exact aV<|.of (by simp only[xS,U];rfl)
     |false=>
      have I:=KJ U;have e:je l o=⟨o.node,o.parent,o.name,o.at_,[],nN⟩:=by
       unfold je pM;rw[aA hk,I];rfl
      have z:upto l o.node=pos l o.node:=by rw[upto,aj<|by rw[U];decide]
      rw[z]at Z;have dd:=xg [⟨o.node,o.parent,o.name,o.at_,[],nN⟩] (pos l o.node) (pos l o.node) Z.1 Z.2 nX
      simp only[dz,hj,ba]at dd;rw[dX,aj V,kh,aj V,e,z,I];repeat' first|((first|refine cx (lN _ _) ?_|refine oK (jm _ _ _ (by simp only[go_sem,J,K,O,U,T])<|by simp only[go_sem,J,K,O,U,T]) aK ?_|refine oL (λ_=>jm _ _ _ (by simp only[go_sem,J,K,O,U,T])<|by simp only[go_sem,J,K,O,U,T]) aK ?_|refine oM (λ_=>jm _ _ _ (by simp only[go_sem,J,K,O,U,T])<|by simp only[go_sem,J,K,O,U,T]) aK ?_|refine mx [15] Ac ?_|refine mx [16] Ad ?_|refine mx [17] Ae ?_|refine ae ?_);simp only[go_sem,J,K,O,U,T])|refine ao ?_|fail
      exact aV<|.of (by simp only[xS,U];rfl)
   ·have O:decide (o.kind=1)=false:=bN hk;have V:¬refused l o=true:=by simp[refused,J,K,hk]
    cases U:hq l o.node with
    |true=>
     have ak:=v8 J U;have ad:=di ba ak;have hw:=dA ak<|show l.length<=9223372036854775807 by omega
     have I:=Ke J U;have e:je l o=⟨l[pos l o.node].id,l[pos l o.node].parent,l[pos l o.node].name,l[pos l o.node].fJ,o.data,o.at_⟩:=by
      unfold je pM;rw[aj hk,I]
     have z:upto l o.node=pos l o.node+1:=by rw[upto,aA U]
     rw[z]at Z;have dd:=xg [⟨l[pos l o.node].id,l[pos l o.node].parent,l[pos l o.node].name,l[pos l o.node].fJ,o.data,o.at_⟩] (pos l o.node) (pos l o.node+1) Z.1 Z.2 nX
     simp only[dz,hj,ba]at dd;rw[dX,aj V,kh,aj V,e,z,I];repeat' first|((first|refine cx (lN _ _) ?_|refine mx [15] Ac ?_|refine mx [16] Ad ?_|refine mx [17] Ae ?_|refine ae ?_);simp only[go_sem,J,K,O,U,ad,hw,ba])|refine ao ?_|fail
     exact aV<|.of (by simp only[xS,U];rfl)
    |false=>
     have I:=KJ U;have e:je l o=⟨o.node, -1,[],nN,o.data,o.at_⟩:=by
      unfold je pM;rw[aj hk,I];rfl
     have z:upto l o.node=pos l o.node:=by rw[upto,aj<|by rw[U];decide]
     rw[z]at Z;have dd:=xg [⟨o.node, -1,[],nN,o.data,o.at_⟩] (pos l o.node) (pos l o.node) Z.1 Z.2 nX
     simp only[dz,hj,ba]at dd;rw[dX,aj V,kh,aj V,e,z,I];repeat' first|((first|refine cx (lN _ _) ?_|refine mx [15] Ac ?_|refine mx [16] Ad ?_|refine mx [17] Ae ?_|refine ae ?_);simp only[go_sem,J,K,O,U])|refine ao ?_|fail
     exact aV<|.of (by simp only[xS,U];rfl)
end Go.Proofs.YtnmamncmpklliaaGreatDoor

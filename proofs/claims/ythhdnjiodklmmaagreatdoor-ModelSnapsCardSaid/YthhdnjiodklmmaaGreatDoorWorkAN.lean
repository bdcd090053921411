/- The texts 14 of 51 beneath the rows of this seat (joined by program): the abstract machine, and what the functions answer. No condition. -/
import Derived.Test.YthhdnjiodklmmaaGreatDoorWorkAL
set_option linter.unusedSimpArgs false
set_option linter.unusedVariables false
set_option linter.unusedSectionVars false
/- What the functions of the tree answer: Do, Back. No condition. -/
namespace Go.Proofs.YthhdnjiodklmmaaGreatDoor
open Go Go.Aw Go.Gw
set_option linter.unusedSimpArgs false
set_option maxHeartbeats 1000000
set_option maxRecDepth 20000
def fZ:List Pl:=[.pure 0,.pure 0,.pure 0,.pure 0,.pure 0,.pure 0,.pure 0,.eff [false,true,true,true,true,false,false],.pure 0,.eff [false,true,true,false,false],.pure 0,.eff [false,false,false]]
def gB:List Pl:=[.pure 0,.pure 0,.pure 0,.pure 0,.pure 0,.eff [false,true,true,false,false],.pure 0,.eff [false,false,false]]
def gE:List Pl:=[.pure 0,.free,.free,.pure 0,.free,.pure 0,.pure 0,.free,.eff [false,false,false,false]]
attribute [go_sem] fZ gB gE
theorem aL6(l:List Nd)(o:Opn)(hs:chk l=true)(hl:l.length≤1000000000)(H:AHeap)(i j:Nat)(b:Bool)
  (hi:hget H i=.cells 0 [.int .i64 o.at_.c,.int .i64 o.at_.r,.int .i64 o.kind,.int .i64 o.node,.int .i64 o.parent,.str o.name,.str o.data]) (hj:hget H j=.cells 0 [.sl b (l.map ndA)]):
  cJ Tryz.prog 190 [.ref i 0 0,.ref j 0 0] H (.bool (qB l o)):=by
 refine aL Tryz.func190 rfl (Nat.le_of_ble_eq_true rfl) ?_
 have hab:=aFR b l o.parent hs (by omega) H
 repeat' first|((first|refine aV (hab) oT ?_|refine aW (hab) oT ?_|refine aX (fun _=>hab) oT ?_|refine cK (ct (uP _ _ _) lY) ?_|refine cP (ct (uP _ _ _) lY) ?_|refine cM (ct (uP _ _ _) lY) ?_|refine gS ?_);simp only[go_sem,hi,hj])|refine gA ?_|(refine gD (fun h=>?_) (fun h=>?_)<;>try exact aA h)|fail
 refine aY (by simp only[go_sem]) (.of ?_)
 rw[qB]
theorem aUe(b:Bool)(l:List Nd)(o:Opn)(hs:OpS o)(hl:l.length≤1000000000)(H:AHeap):cJ Tryz.prog 160 [.sl b (l.map ndA),opA o] H (.tup [.sl false ((kY l o).map ndA),unA (uK l o)]):=by
 refine aL Tryz.func160 rfl (Nat.le_of_ble_eq_true rfl) ?_
 have hok:=wI o hs
 have hsm:=aFT b l hl
 simp only[opA]at hok ⊢
 cases hc:chk l with
 |false=>
  have hr:bW l o=true:=by simp[bW,hc]
  rw[kY,if_pos hr,uK,if_pos hr]
  have ct0:=ct hok cS;have ct1:=ct hsm lZ;repeat' first|((first|refine gK ?_|refine cK (ct (bR _ _) aR) ?_|refine cP (ct (bR _ _) aR) ?_|refine cM (ct (bR _ _) aR) ?_|refine mx [15] fZ ?_|refine mx [16] gB ?_|refine mx [17] gE ?_|refine gS ?_);simp only[go_sem,hc])|refine gA ?_|(refine gD (fun h=>?_) (fun h=>?_)<;>try exact aA h)|fail
  exact done (by simp only[go_sem]) (.refl _)
 |true=>
  cases ho:opOk o with
  |false=>
   have hr:bW l o=true:=by simp[bW,ho]
   rw[kY,if_pos hr,uK,if_pos hr]
   have ct0:=ct hok cS;have ct1:=ct hsm lZ;repeat' first|((first|refine gK ?_|refine cK (ct (bR _ _) aR) ?_|refine cP (ct (bR _ _) aR) ?_|refine cM (ct (bR _ _) aR) ?_|refine mx [15] fZ ?_|refine mx [16] gB ?_|refine mx [17] gE ?_|refine gS ?_);simp only[go_sem,hc,ho])|refine gA ?_|(refine gD (fun h=>?_) (fun h=>?_)<;>try exact aA h)|fail
   exact done (by simp only[go_sem]) (.refl _)
  |true=>
   have hpl:=yU b l o.node hc
   have hlay:=aJn b true l
   have hup:=yR l o.node hc
   have hlc:=fun H i j hi hj=>aL6 l o hc hl H i j b hi hj
   by_cases hk:o.kind=1
   ·have hkd:decide (o.kind=1)=true:=decide_eq_true hk
    cases hlp:qB l o with
    |true=>
     have hr:bW l o=true:=by simp[bW,hk,hlp]
     rw[kY,if_pos hr,uK,if_pos hr]
     have ct0:=ct hok cS;have ct1:=ct hsm lZ;repeat' first|((first|refine gK ?_|refine cK (ct (bR _ _) aR) ?_|refine cP (ct (bR _ _) aR) ?_|refine cM (ct (bR _ _) aR) ?_|refine eW (hlc _ _ _ (by simp only[go_sem,hc,ho,hkd,hlp]) (by simp only[go_sem,hc,ho,hkd,hlp])) gO ?_|refine eX (fun _=>hlc _ _ _ (by simp only[go_sem,hc,ho,hkd,hlp]) (by simp only[go_sem,hc,ho,hkd,hlp])) gO ?_|refine eY (fun _=>hlc _ _ _ (by simp only[go_sem,hc,ho,hkd,hlp]) (by simp only[go_sem,hc,ho,hkd,hlp])) gO ?_|refine mx [15] fZ ?_|refine mx [16] gB ?_|refine mx [17] gE ?_|refine gS ?_);simp only[go_sem,hc,ho,hkd,hlp])|refine gA ?_|(refine gD (fun h=>?_) (fun h=>?_)<;>try exact aA h)|fail
     exact done (by simp only[go_sem]) (.refl _)
    |false=>
     have hr:¬bW l o=true:=by simp[bW,hc,ho,hlp]
     cases hh:had l o.node with
     |true=>
      have hlt:=mG hc hh
      have hp:=bA ndA hlt
      have hw:=bD hlt (show l.length≤9223372036854775807 by omega)
      have hf:=yQ hc hh
      have e:cG l o=⟨l[pos l o.node].id,o.parent,o.name,o.at_,l[pos l o.node].data,l[pos l o.node].wrote⟩:=by
       unfold cG eQ
       rw[if_pos hk,hf]
      have eu:upto l o.node=pos l o.node+1:=by rw[upto,if_pos hh]
      rw[eu]at hup
      have hl1:=hlay [⟨l[pos l o.node].id,o.parent,o.name,o.at_,l[pos l o.node].data,l[pos l o.node].wrote⟩] (pos l o.node) (pos l o.node+1) hup.1 hup.2 (by simp;omega)
      simp only[List.map_cons,List.map_nil,ndA]at hl1
      rw[kY,if_neg hr,uK,if_neg hr,e,eu,hf]
      have ct0:=ct hok cS;have ct1:=ct hpl cU;have ct2:=ct hl1 fB;repeat' first|((first|refine gK ?_|refine cK (ct (bR _ _) aR) ?_|refine cP (ct (bR _ _) aR) ?_|refine cM (ct (bR _ _) aR) ?_|refine eW (hlc _ _ _ (by simp only[go_sem,hc,ho,hkd,hh,hlp,hp,hw,ndA]) (by simp only[go_sem,hc,ho,hkd,hh,hlp,hp,hw,ndA])) gO ?_|refine eX (fun _=>hlc _ _ _ (by simp only[go_sem,hc,ho,hkd,hh,hlp,hp,hw,ndA]) (by simp only[go_sem,hc,ho,hkd,hh,hlp,hp,hw,ndA])) gO ?_|refine eY (fun _=>hlc _ _ _ (by simp only[go_sem,hc,ho,hkd,hh,hlp,hp,hw,ndA]) (by simp only[go_sem,hc,ho,hkd,hh,hlp,hp,hw,ndA])) gO ?_|refine mx [15] fZ ?_|refine mx [16] gB ?_|refine mx [17] gE ?_|refine gS ?_);simp only[go_sem,hc,ho,hkd,hh,hlp,hp,hw,ndA])|refine gA ?_|(refine gD (fun h=>?_) (fun h=>?_)<;>try exact aA h)|fail
      exact done (by simp only[go_sem]) (.of (by simp only[unA,hh];rfl))
     |false=>
      have hf:=aCi hh
      have e:cG l o=⟨o.node,o.parent,o.name,o.at_,[],yH⟩:=by
       unfold cG eQ
       rw[if_pos hk,hf];rfl
      have eu:upto l o.node=pos l o.node:=by rw[upto,if_neg (by rw[hh];decide)]
      rw[eu]at hup
      have hl1:=hlay [⟨o.node,o.parent,o.name,o.at_,[],yH⟩] (pos l o.node) (pos l o.node) hup.1 hup.2 (by simp;omega)
      simp only[List.map_cons,List.map_nil,ndA]at hl1
      rw[kY,if_neg hr,uK,if_neg hr,e,eu,hf]
      have ct0:=ct hok cS;have ct1:=ct hpl cU;have ct2:=ct hl1 fB;repeat' first|((first|refine gK ?_|refine cK (ct (bR _ _) aR) ?_|refine cP (ct (bR _ _) aR) ?_|refine cM (ct (bR _ _) aR) ?_|refine eW (hlc _ _ _ (by simp only[go_sem,hc,ho,hkd,hh,hlp]) (by simp only[go_sem,hc,ho,hkd,hh,hlp])) gO ?_|refine eX (fun _=>hlc _ _ _ (by simp only[go_sem,hc,ho,hkd,hh,hlp]) (by simp only[go_sem,hc,ho,hkd,hh,hlp])) gO ?_|refine eY (fun _=>hlc _ _ _ (by simp only[go_sem,hc,ho,hkd,hh,hlp]) (by simp only[go_sem,hc,ho,hkd,hh,hlp])) gO ?_|refine mx [15] fZ ?_|refine mx [16] gB ?_|refine mx [17] gE ?_|refine gS ?_);simp only[go_sem,hc,ho,hkd,hh,hlp])|refine gA ?_|(refine gD (fun h=>?_) (fun h=>?_)<;>try exact aA h)|fail
      exact done (by simp only[go_sem]) (.of (by simp only[unA,hh];rfl))
   ·have hkd:decide (o.kind=1)=false:=decide_eq_false hk
    have hr:¬bW l o=true:=by simp[bW,hc,ho,hk]
    cases hh:had l o.node with
    |true=>
     have hlt:=mG hc hh
     have hp:=bA ndA hlt
     have hw:=bD hlt (show l.length≤9223372036854775807 by omega)
     have hf:=yQ hc hh
     have e:cG l o=⟨l[pos l o.node].id,l[pos l o.node].parent,l[pos l o.node].name,l[pos l o.node].moved,o.data,o.at_⟩:=by
      unfold cG eQ
      rw[if_neg hk,hf]
     have eu:upto l o.node=pos l o.node+1:=by rw[upto,if_pos hh]
     rw[eu]at hup
     have hl1:=hlay [⟨l[pos l o.node].id,l[pos l o.node].parent,l[pos l o.node].name,l[pos l o.node].moved,o.data,o.at_⟩] (pos l o.node) (pos l o.node+1) hup.1 hup.2 (by simp;omega)
     simp only[List.map_cons,List.map_nil,ndA]at hl1
     rw[kY,if_neg hr,uK,if_neg hr,e,eu,hf]
     have ct0:=ct hok cS;have ct1:=ct hpl cU;have ct2:=ct hl1 fB;repeat' first|((first|refine gK ?_|refine cK (ct (bR _ _) aR) ?_|refine cP (ct (bR _ _) aR) ?_|refine cM (ct (bR _ _) aR) ?_|refine mx [15] fZ ?_|refine mx [16] gB ?_|refine mx [17] gE ?_|refine gS ?_);simp only[go_sem,hc,ho,hkd,hh,hp,hw,ndA])|refine gA ?_|(refine gD (fun h=>?_) (fun h=>?_)<;>try exact aA h)|fail
     exact done (by simp only[go_sem]) (.of (by simp only[unA,hh];rfl))
    |false=>
     have hf:=aCi hh
     have e:cG l o=⟨o.node, -1,[],yH,o.data,o.at_⟩:=by
      unfold cG eQ
      rw[if_neg hk,hf];rfl
     have eu:upto l o.node=pos l o.node:=by rw[upto,if_neg (by rw[hh];decide)]
     rw[eu]at hup
     have hl1:=hlay [⟨o.node, -1,[],yH,o.data,o.at_⟩] (pos l o.node) (pos l o.node) hup.1 hup.2 (by simp;omega)
     simp only[List.map_cons,List.map_nil,ndA]at hl1
     rw[kY,if_neg hr,uK,if_neg hr,e,eu,hf]
     have ct0:=ct hok cS;have ct1:=ct hpl cU;have ct2:=ct hl1 fB;repeat' first|((first|refine gK ?_|refine cK (ct (bR _ _) aR) ?_|refine cP (ct (bR _ _) aR) ?_|refine cM (ct (bR _ _) aR) ?_|refine mx [15] fZ ?_|refine mx [16] gB ?_|refine mx [17] gE ?_|refine gS ?_);simp only[go_sem,hc,ho,hkd,hh])|refine gA ?_|(refine gD (fun h=>?_) (fun h=>?_)<;>try exact aA h)|fail
     exact done (by simp only[go_sem]) (.of (by simp only[unA,hh];rfl))
end Go.Proofs.YthhdnjiodklmmaaGreatDoor

/- The texts 13 of 51 beneath the rows of this seat (joined by program): the abstract machine, and what the functions answer. No condition. -/
import Derived.Test.YthhdnjiodklmmaaGreatDoorWorkAL
set_option linter.unusedSimpArgs false
set_option linter.unusedVariables false
set_option linter.unusedSectionVars false
/- What the functions of the tree answer: Back. No condition. -/
namespace Go.Proofs.YthhdnjiodklmmaaGreatDoor
open Go Go.Aw Go.Gw
set_option linter.unusedSimpArgs false
set_option maxRecDepth 20000
set_option maxHeartbeats 1000000
theorem aQo(b:Bool)(l:List Nd)(o:Opn)(u:Und)(hl:l.length≤1000000000)(H:AHeap):cJ Tryz.prog 158 [.sl b (l.map ndA),opA o,unA u] H (.sl false ((oD l o u).map ndA)):=by
 refine aL Tryz.func158 rfl (Nat.le_of_ble_eq_true rfl) ?_
 have hsm:=aFT b l hl
 simp only[opA,unA]
 cases hc:chk l with
 |false=>
  have hr:(!chk l|| !u.did)=true:=by simp[hc]
  rw[oD,if_pos hr]
  have ct0:=ct hsm lZ;repeat' first|((first|refine gK ?_|refine cK (ct (bR _ _) aR) ?_|refine cP (ct (bR _ _) aR) ?_|refine cM (ct (bR _ _) aR) ?_|refine gS ?_);simp only[go_sem,hc])|refine gA ?_|(refine gD (fun h=>?_) (fun h=>?_)<;>try exact aA h)|fail
  exact done (by simp only[go_sem]) (.refl _)
 |true=>
  cases hd:u.did with
  |false=>
   have hr:(!chk l|| !u.did)=true:=by simp[hd]
   rw[oD,if_pos hr]
   have ct0:=ct hsm lZ;repeat' first|((first|refine gK ?_|refine cK (ct (bR _ _) aR) ?_|refine cP (ct (bR _ _) aR) ?_|refine cM (ct (bR _ _) aR) ?_|refine gS ?_);simp only[go_sem,hc,hd])|refine gA ?_|(refine gD (fun h=>?_) (fun h=>?_)<;>try exact aA h)|fail
   exact done (by simp only[go_sem]) (.refl _)
  |true=>
   have hr:¬(!chk l|| !u.did)=true:=by simp[hc,hd]
   have hpl:=yU b l o.node hc
   have hlay:=aJn b true l
   have hup:=yR l o.node hc
   rw[oD,if_neg hr]
   cases hq:(fV o.node&&u.had&&decide (u.was.id=o.node))with
   |true=>
    rw[if_pos rfl]
    have hl1:=hlay [u.was] (pos l o.node) (upto l o.node) hup.1 hup.2 (by simp;omega)
    simp only[List.map_cons,List.map_nil,ndA]at hl1
    cases hh:had l o.node with
    |true=>
     have hlt:=mG hc hh
     have hw:=bD hlt (show l.length≤9223372036854775807 by omega)
     have eu:upto l o.node=pos l o.node+1:=by rw[upto,if_pos hh]
     rw[eu]at hl1 ⊢
     have ct0:=ct hpl cU;have ct1:=ct hl1 fB;repeat' first|((first|refine gK ?_|refine cK (ct (bR _ _) aR) ?_|refine cP (ct (bR _ _) aR) ?_|refine cM (ct (bR _ _) aR) ?_|refine cK (ct (kU _) bO) ?_|refine cP (ct (kU _) bO) ?_|refine cM (ct (kU _) bO) ?_|refine gS ?_);simp only[go_sem,hc,hd,hh,hw,hq])|refine gA ?_|(refine gD (fun h=>?_) (fun h=>?_)<;>try exact aA h)|fail
     exact done (by simp only[go_sem]) (.refl _)
    |false=>
     have eu:upto l o.node=pos l o.node:=by rw[upto,if_neg (by rw[hh];decide)]
     rw[eu]at hl1 ⊢
     have ct0:=ct hpl cU;have ct1:=ct hl1 fB;repeat' first|((first|refine gK ?_|refine cK (ct (bR _ _) aR) ?_|refine cP (ct (bR _ _) aR) ?_|refine cM (ct (bR _ _) aR) ?_|refine cK (ct (kU _) bO) ?_|refine cP (ct (kU _) bO) ?_|refine cM (ct (kU _) bO) ?_|refine gS ?_);simp only[go_sem,hc,hd,hh,hq])|refine gA ?_|(refine gD (fun h=>?_) (fun h=>?_)<;>try exact aA h)|fail
     exact done (by simp only[go_sem]) (.refl _)
   |false=>
    rw[if_neg (by decide)]
    have hl1:=hlay [] (pos l o.node) (upto l o.node) hup.1 hup.2 (by simp;omega)
    simp only[List.map_nil]at hl1
    cases hh:had l o.node with
    |true=>
     have hlt:=mG hc hh
     have hw:=bD hlt (show l.length≤9223372036854775807 by omega)
     have eu:upto l o.node=pos l o.node+1:=by rw[upto,if_pos hh]
     rw[eu]at hl1 ⊢
     have ct0:=ct hpl cU;have ct1:=ct hl1 fB;repeat' first|((first|refine gK ?_|refine cK (ct (bR _ _) aR) ?_|refine cP (ct (bR _ _) aR) ?_|refine cM (ct (bR _ _) aR) ?_|refine cK (ct (kU _) bO) ?_|refine cP (ct (kU _) bO) ?_|refine cM (ct (kU _) bO) ?_|refine gS ?_);simp only[go_sem,hc,hd,hh,hw,hq])|refine gA ?_|(refine gD (fun h=>?_) (fun h=>?_)<;>try exact aA h)|fail
     exact done (by simp only[go_sem]) (.refl _)
    |false=>
     have eu:upto l o.node=pos l o.node:=by rw[upto,if_neg (by rw[hh];decide)]
     rw[eu]at hl1 ⊢
     have ct0:=ct hpl cU;have ct1:=ct hl1 fB;repeat' first|((first|refine gK ?_|refine cK (ct (bR _ _) aR) ?_|refine cP (ct (bR _ _) aR) ?_|refine cM (ct (bR _ _) aR) ?_|refine cK (ct (kU _) bO) ?_|refine cP (ct (kU _) bO) ?_|refine cM (ct (kU _) bO) ?_|refine gS ?_);simp only[go_sem,hc,hd,hh,hq])|refine gA ?_|(refine gD (fun h=>?_) (fun h=>?_)<;>try exact aA h)|fail
     exact done (by simp only[go_sem]) (.refl _)
end Go.Proofs.YthhdnjiodklmmaaGreatDoor

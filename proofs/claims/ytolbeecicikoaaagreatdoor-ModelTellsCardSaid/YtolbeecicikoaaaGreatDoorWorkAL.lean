/- The texts 12 of 53 beneath the rows of this seat (joined by program): the abstract machine, and what the functions answer. No condition. -/
import Derived.Test.YtolbeecicikoaaaGreatDoorWorkAK
set_option linter.unusedSimpArgs false
set_option linter.unusedVariables false
set_option linter.unusedSectionVars false
set_option maxRecDepth 100000
set_option maxHeartbeats 16000000
namespace Go.Proofs.YtolbeecicikoaaaGreatDoor
theorem aQ1(b:Bool)(l:List Nd)(o:Opn)(u:Und)(hl:l.length≤1000000000)(H:AHeap):bD Tryz.prog 137 [.sl b (l.map ndA),opA o,unA u] H (.sl false ((oW l o u).map ndA)):=by
 refine fO Tryz.func137 ?_
 have hsm:=aGq b l hl
 simp only[opA,unA]
 cases hc:chk l with
 |false=>
  have hr:(!chk l|| !u.did)=true:=by simp[hc]
  rw[oW,zAc hr]
  repeat' first|((first|refine gQ (jR _ _) ?_|refine gS ?_);simp only[go_sem,hc])|refine gA ?_|(refine gD (fun h=>?_) (fun h=>?_)<;>try exact aA h)|fail
  exact dY (.refl _)
 |true=>
  cases hd:u.did with
  |false=>
   have hr:(!chk l|| !u.did)=true:=by simp[hd]
   rw[oW,zAc hr]
   repeat' first|((first|refine gQ (jR _ _) ?_|refine gS ?_);simp only[go_sem,hc,hd])|refine gA ?_|(refine gD (fun h=>?_) (fun h=>?_)<;>try exact aA h)|fail
   exact dY (.refl _)
  |true=>
   have hr:¬(!chk l|| !u.did)=true:=by simp[hc,hd]
   have hpl:=zW b l o.node hc
   have hlay:=aJY b true l
   have hup:=zV l o.node hc
   rw[oW,zAb hr]
   cases hq:(dQ o.node&&u.had&&decide (u.was.id=o.node))with
   |true=>
    rw[zAc rfl]
    have hl1:=hlay [u.was] (pos l o.node) (upto l o.node) hup.1 hup.2 (by simp;omega)
    simp only[zAA,zBx,ndA]at hl1
    cases hh:had l o.node with
    |true=>
     have hlt:=nF hc hh
     have hw:=aK hlt (show l.length≤9223372036854775807 by omega)
     have eu:upto l o.node=pos l o.node+1:=by rw[upto,zAc hh]
     rw[eu]at hl1 ⊢
     repeat' first|((first|refine gQ (jR _ _) ?_|refine gQ (aCr _) ?_|refine gS ?_);simp only[go_sem,hc,hd,hh,hw,hq])|refine gA ?_|(refine gD (fun h=>?_) (fun h=>?_)<;>try exact aA h)|fail
     exact dY (.refl _)
    |false=>
     have eu:upto l o.node=pos l o.node:=by rw[upto,zAb (by rw[hh];decide)]
     rw[eu]at hl1 ⊢
     repeat' first|((first|refine gQ (jR _ _) ?_|refine gQ (aCr _) ?_|refine gS ?_);simp only[go_sem,hc,hd,hh,hq])|refine gA ?_|(refine gD (fun h=>?_) (fun h=>?_)<;>try exact aA h)|fail
     exact dY (.refl _)
   |false=>
    rw[zAb (by decide)]
    have hl1:=hlay [] (pos l o.node) (upto l o.node) hup.1 hup.2 (by simp;omega)
    simp only[zBx]at hl1
    cases hh:had l o.node with
    |true=>
     have hlt:=nF hc hh
     have hw:=aK hlt (show l.length≤9223372036854775807 by omega)
     have eu:upto l o.node=pos l o.node+1:=by rw[upto,zAc hh]
     rw[eu]at hl1 ⊢
     repeat' first|((first|refine gQ (jR _ _) ?_|refine gQ (aCr _) ?_|refine gS ?_);simp only[go_sem,hc,hd,hh,hw,hq])|refine gA ?_|(refine gD (fun h=>?_) (fun h=>?_)<;>try exact aA h)|fail
     exact dY (.refl _)
    |false=>
     have eu:upto l o.node=pos l o.node:=by rw[upto,zAb (by rw[hh];decide)]
     rw[eu]at hl1 ⊢
     repeat' first|((first|refine gQ (jR _ _) ?_|refine gQ (aCr _) ?_|refine gS ?_);simp only[go_sem,hc,hd,hh,hq])|refine gA ?_|(refine gD (fun h=>?_) (fun h=>?_)<;>try exact aA h)|fail
     exact dY (.refl _)
end Go.Proofs.YtolbeecicikoaaaGreatDoor
namespace Go.Proofs.YtolbeecicikoaaaGreatDoor
def fW:List Pl:=[.pure 0,.pure 0,.pure 0,.pure 0,.pure 0,.pure 0,.pure 0,.eff [false,true,true,true,true,false,false],.pure 0,.eff [false,true,true,false,false],.pure 0,.eff [false,false,false]]
def fX:List Pl:=[.pure 0,.pure 0,.pure 0,.pure 0,.pure 0,.eff [false,true,true,false,false],.pure 0,.eff [false,false,false]]
def fY:List Pl:=[.pure 0,.free,.free,.pure 0,.free,.pure 0,.pure 0,.free,.eff [false,false,false,false]]
attribute [go_sem] fW fX fY
theorem aM9(l:List Nd)(o:Opn)(hs:chk l=true)(hl:l.length≤1000000000)(H:AHeap)(i j:Nat)(b:Bool)
  (hi:hget H i=.cells 0 [.int .i64 o.at_.c,.int .i64 o.at_.r,.int .i64 o.kind,.int .i64 o.node,.int .i64 o.parent,.str o.name,.str o.data]) (hj:hget H j=.cells 0 [.sl b (l.map ndA)]):
  bD Tryz.prog 171 [.ref i 0 0,.ref j 0 0] H (.bool (nG l o)):=by
 refine fO Tryz.func171 ?_
 have hab:=aGn b l o.parent hs (by omega) H
 repeat' first|((first|refine aY (hab) (cO) ?_|refine aZ (hab) (cO) ?_|refine bA (fun _=>hab) (cO) ?_|refine gQ (aDK _ _ _) ?_|refine gS ?_);simp only[go_sem,hi,hj])|refine gA ?_|(refine gD (fun h=>?_) (fun h=>?_)<;>try exact aA h)|fail
 refine bL (.of ?_)
 rw[nG]
theorem aUc(b:Bool)(l:List Nd)(o:Opn)(hs:OpS o)(hl:l.length≤1000000000)(H:AHeap):bD Tryz.prog 139 [.sl b (l.map ndA),opA o] H (.tup [.sl false ((jQ l o).map ndA),unA (qW l o)]):=by
 refine fO Tryz.func139 ?_
 have hok:=xA o hs
 have hsm:=aGq b l hl
 simp only[opA]at hok ⊢
 cases hc:chk l with
 |false=>
  have hr:bB l o=true:=by simp[bB,hc]
  rw[jQ,zAc hr,qW,zAc hr]
  repeat' first|((first|refine gQ (jR _ _) ?_|refine mx [15] fW ?_|refine mx [16] fX ?_|refine mx [17] fY ?_|refine gS ?_);simp only[go_sem,hc])|refine gA ?_|(refine gD (fun h=>?_) (fun h=>?_)<;>try exact aA h)|fail
  exact dY (.refl _)
 |true=>
  cases ho:opOk o with
  |false=>
   have hr:bB l o=true:=by simp[bB,ho]
   rw[jQ,zAc hr,qW,zAc hr]
   repeat' first|((first|refine gQ (jR _ _) ?_|refine mx [15] fW ?_|refine mx [16] fX ?_|refine mx [17] fY ?_|refine gS ?_);simp only[go_sem,hc,ho])|refine gA ?_|(refine gD (fun h=>?_) (fun h=>?_)<;>try exact aA h)|fail
   exact dY (.refl _)
  |true=>
   have hpl:=zW b l o.node hc
   have hlay:=aJY b true l
   have hup:=zV l o.node hc
   have hlc:=fun H i j hi hj=>aM9 l o hc hl H i j b hi hj
   by_cases hk:o.kind=1
   ·have hkd:decide (o.kind=1)=true:=zAd hk
    cases hlp:nG l o with
    |true=>
     have hr:bB l o=true:=by simp[bB,hk,hlp]
     rw[jQ,zAc hr,qW,zAc hr]
     repeat' first|((first|refine gQ (jR _ _) ?_|refine eH (hlc _ _ _ (by simp only[go_sem,hc,ho,hkd,hlp]) (by simp only[go_sem,hc,ho,hkd,hlp])) (cO) ?_|refine eJ (fun _=>hlc _ _ _ (by simp only[go_sem,hc,ho,hkd,hlp]) (by simp only[go_sem,hc,ho,hkd,hlp])) (cO) ?_|refine eK (fun _=>hlc _ _ _ (by simp only[go_sem,hc,ho,hkd,hlp]) (by simp only[go_sem,hc,ho,hkd,hlp])) (cO) ?_|refine mx [15] fW ?_|refine mx [16] fX ?_|refine mx [17] fY ?_|refine gS ?_);simp only[go_sem,hc,ho,hkd,hlp])|refine gA ?_|(refine gD (fun h=>?_) (fun h=>?_)<;>try exact aA h)|fail
     exact dY (.refl _)
    |false=>
     have hr:¬bB l o=true:=by simp[bB,hc,ho,hlp]
     cases hh:had l o.node with
     |true=>
      have hlt:=nF hc hh
      have hp:=aJ ndA hlt
      have hw:=aK hlt (show l.length≤9223372036854775807 by omega)
      have hf:=zU hc hh
      have e:bM l o=⟨l[pos l o.node].id,o.parent,o.name,o.at_,l[pos l o.node].data,l[pos l o.node].wrote⟩:=by
       unfold bM dI
       rw[zAc hk,hf]
      have eu:upto l o.node=pos l o.node+1:=by rw[upto,zAc hh]
      rw[eu]at hup
      have hl1:=hlay [⟨l[pos l o.node].id,o.parent,o.name,o.at_,l[pos l o.node].data,l[pos l o.node].wrote⟩] (pos l o.node) (pos l o.node+1) hup.1 hup.2 (by simp;omega)
      simp only[zAA,zBx,ndA]at hl1
      rw[jQ,zAb hr,qW,zAb hr,e,eu,hf]
      repeat' first|((first|refine gQ (jR _ _) ?_|refine eH (hlc _ _ _ (by simp only[go_sem,hc,ho,hkd,hh,hlp,hp,hw,ndA]) (by simp only[go_sem,hc,ho,hkd,hh,hlp,hp,hw,ndA])) (cO) ?_|refine eJ (fun _=>hlc _ _ _ (by simp only[go_sem,hc,ho,hkd,hh,hlp,hp,hw,ndA]) (by simp only[go_sem,hc,ho,hkd,hh,hlp,hp,hw,ndA])) (cO) ?_|refine eK (fun _=>hlc _ _ _ (by simp only[go_sem,hc,ho,hkd,hh,hlp,hp,hw,ndA]) (by simp only[go_sem,hc,ho,hkd,hh,hlp,hp,hw,ndA])) (cO) ?_|refine mx [15] fW ?_|refine mx [16] fX ?_|refine mx [17] fY ?_|refine gS ?_);simp only[go_sem,hc,ho,hkd,hh,hlp,hp,hw,ndA])|refine gA ?_|(refine gD (fun h=>?_) (fun h=>?_)<;>try exact aA h)|fail
      exact dY (.of (by simp only[unA,hh];rfl))
     |false=>
      have hf:=aCt hh
      have e:bM l o=⟨o.node,o.parent,o.name,o.at_,[],lT⟩:=by
       unfold bM dI
       rw[zAc hk,hf];rfl
      have eu:upto l o.node=pos l o.node:=by rw[upto,zAb (by rw[hh];decide)]
      rw[eu]at hup
      have hl1:=hlay [⟨o.node,o.parent,o.name,o.at_,[],lT⟩] (pos l o.node) (pos l o.node) hup.1 hup.2 (by simp;omega)
      simp only[zAA,zBx,ndA]at hl1
      rw[jQ,zAb hr,qW,zAb hr,e,eu,hf]
      repeat' first|((first|refine gQ (jR _ _) ?_|refine eH (hlc _ _ _ (by simp only[go_sem,hc,ho,hkd,hh,hlp]) (by simp only[go_sem,hc,ho,hkd,hh,hlp])) (cO) ?_|refine eJ (fun _=>hlc _ _ _ (by simp only[go_sem,hc,ho,hkd,hh,hlp]) (by simp only[go_sem,hc,ho,hkd,hh,hlp])) (cO) ?_|refine eK (fun _=>hlc _ _ _ (by simp only[go_sem,hc,ho,hkd,hh,hlp]) (by simp only[go_sem,hc,ho,hkd,hh,hlp])) (cO) ?_|refine mx [15] fW ?_|refine mx [16] fX ?_|refine mx [17] fY ?_|refine gS ?_);simp only[go_sem,hc,ho,hkd,hh,hlp])|refine gA ?_|(refine gD (fun h=>?_) (fun h=>?_)<;>try exact aA h)|fail
      exact dY (.of (by simp only[unA,hh];rfl))
   ·have hkd:decide (o.kind=1)=false:=eT hk
    have hr:¬bB l o=true:=by simp[bB,hc,ho,hk]
    cases hh:had l o.node with
    |true=>
     have hlt:=nF hc hh
     have hp:=aJ ndA hlt
     have hw:=aK hlt (show l.length≤9223372036854775807 by omega)
     have hf:=zU hc hh
     have e:bM l o=⟨l[pos l o.node].id,l[pos l o.node].parent,l[pos l o.node].name,l[pos l o.node].moved,o.data,o.at_⟩:=by
      unfold bM dI
      rw[zAb hk,hf]
     have eu:upto l o.node=pos l o.node+1:=by rw[upto,zAc hh]
     rw[eu]at hup
     have hl1:=hlay [⟨l[pos l o.node].id,l[pos l o.node].parent,l[pos l o.node].name,l[pos l o.node].moved,o.data,o.at_⟩] (pos l o.node) (pos l o.node+1) hup.1 hup.2 (by simp;omega)
     simp only[zAA,zBx,ndA]at hl1
     rw[jQ,zAb hr,qW,zAb hr,e,eu,hf]
     repeat' first|((first|refine gQ (jR _ _) ?_|refine mx [15] fW ?_|refine mx [16] fX ?_|refine mx [17] fY ?_|refine gS ?_);simp only[go_sem,hc,ho,hkd,hh,hp,hw,ndA])|refine gA ?_|(refine gD (fun h=>?_) (fun h=>?_)<;>try exact aA h)|fail
     exact dY (.of (by simp only[unA,hh];rfl))
    |false=>
     have hf:=aCt hh
     have e:bM l o=⟨o.node, -1,[],lT,o.data,o.at_⟩:=by
      unfold bM dI
      rw[zAb hk,hf];rfl
     have eu:upto l o.node=pos l o.node:=by rw[upto,zAb (by rw[hh];decide)]
     rw[eu]at hup
     have hl1:=hlay [⟨o.node, -1,[],lT,o.data,o.at_⟩] (pos l o.node) (pos l o.node) hup.1 hup.2 (by simp;omega)
     simp only[zAA,zBx,ndA]at hl1
     rw[jQ,zAb hr,qW,zAb hr,e,eu,hf]
     repeat' first|((first|refine gQ (jR _ _) ?_|refine mx [15] fW ?_|refine mx [16] fX ?_|refine mx [17] fY ?_|refine gS ?_);simp only[go_sem,hc,ho,hkd,hh])|refine gA ?_|(refine gD (fun h=>?_) (fun h=>?_)<;>try exact aA h)|fail
     exact dY (.of (by simp only[unA,hh];rfl))
end Go.Proofs.YtolbeecicikoaaaGreatDoor

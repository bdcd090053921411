/- The texts 52 of 53 beneath the rows of this seat (joined by program): the abstract machine, and what the functions answer. No condition. -/
import Derived.Test.YtolbeecicikoaaaGreatDoorWorkBA
import Derived.Test.YtolbeecicikoaaaGreatDoorWorkBV
import Derived.Test.YtolbeecicikoaaaGreatDoorWorkBW
import Derived.Test.YtolbeecicikoaaaGreatDoorWorkBX
import Derived.Test.YtolbeecicikoaaaGreatDoorWorkBY
set_option linter.unusedSimpArgs false
set_option linter.unusedVariables false
set_option linter.unusedSectionVars false
set_option maxRecDepth 100000
set_option maxHeartbeats 16000000
namespace Go.Proofs.YtolbeecicikoaaaGreatDoor
theorem qR{c:Cal}(d:Dsk):(c.kind=1∨c.kind=2→dH c d=qO c d)∧(c.kind=3→dH c d=nL c d)∧(c.kind=4→dH c d=nM c d)∧(c.kind=5→dH c d=tH c d)∧(c.kind=6→dH c d=lE c d)∧(c.kind=7→dH c d=lsD c d)∧
  (c.kind=8→dH c d=rO d)∧(c.kind=9→dH c d=kI c d)∧(c.kind=10→dH c d=nN c d)∧(c.kind=11→dH c d=qP c d)∧(c.kind=12→dH c d=(0,d))∧(c.kind=13→dH c d=lW c d):=by
 unfold dH
 refine⟨fun h=>zAc h,?_,?_,?_,?_,?_,?_,?_,?_,?_,?_,?_⟩<;>(intro h;rw[h];simp)
theorem aDa{m:Mdl}{c:Cal}(hc:chkC c=true){r:Int×Dsk}(hw:dH c ⟨m,an0,[]⟩=r)(hs:(∃e,e≠0∧r=(e,⟨m,an0,[]⟩))∨∃o,r=donePut ⟨m,an0,[]⟩ o):
  ∃m' o e,opV m r=.tup [bC false false false false m',.sl false (o.map opA),.int .i64 e]∧doM m c=(m',gR e,o):=by
 unfold doM
 rw[zAb (by rw[hc];simp),hw]
 rcases hs with⟨e,he,rfl⟩|⟨o,rfl⟩
 ·exact⟨m,[],e,eS he,zAb he⟩
 ·exact⟨_,[o],0,zAc rfl,rfl⟩
theorem aDb{m:Mdl}{c:Cal}(hc:chkC c=true){r:Int×Dsk}(hw:dH c ⟨m,an0,[]⟩=r)(hs:r.1=0→r.2.ops=[]):∃m' a,wH m r=.tup [bC false false false false m',jX false false a]∧doM m c=(m',a,[]):=by
 unfold doM
 rw[zAb (by rw[hc];simp),hw]
 unfold wH
 by_cases h0:r.1=0
 ·rw[zAc h0,zAc h0,zAc (hs h0)];exact⟨_,_,rfl,rfl⟩
 ·rw[zAb h0,zAb h0];exact⟨_,_,rfl,rfl⟩
theorem aLG{m:Mdl}{c:Cal}(hc:chkC c=true){r:Int×Dsk}(hw:dH c ⟨m,an0,[]⟩=r)(hs:r.1=0→r.2.m=m∧r.2.ops=[]):∃a,aIp r=jX false false a∧doM m c=(m,a,[]):=by
 unfold doM
 rw[zAb (by rw[hc];simp),hw]
 unfold aIp
 by_cases h0:r.1=0
 ·rw[zAc h0,zAc h0,zAc (hs h0).2,(hs h0).1];exact⟨_,rfl,rfl⟩
 ·rw[zAb h0,zAb h0];exact⟨_,rfl,rfl⟩
theorem aPu{m:Mdl}{c:Cal}:((nM c ⟨m,an0,[]⟩).1=0→(nM c ⟨m,an0,[]⟩).2.m=m∧(nM c ⟨m,an0,[]⟩).2.ops=[])∧((lsD c ⟨m,an0,[]⟩).1=0→(lsD c ⟨m,an0,[]⟩).2.m=m∧(lsD c ⟨m,an0,[]⟩).2.ops=[]):=by
 constructor
 ·unfold nM;split
  ·intro _;exact⟨rfl,rfl⟩
  ·split
   ·split<;>exact fun _=>⟨rfl,rfl⟩
   ·exact fun _=>⟨rfl,rfl⟩
 ·unfold lsD;split
  ·intro _;exact⟨rfl,rfl⟩
  ·split
   ·split<;>exact fun _=>⟨rfl,rfl⟩
   ·exact fun _=>⟨rfl,rfl⟩
theorem aFT{m:Mdl}{c:Cal}:(rO ⟨m,an0,[]⟩).2.ops=[]∧(nN c ⟨m,an0,[]⟩).2.ops=[]∧(kI c ⟨m,an0,[]⟩).2.ops=[]∧(qP c ⟨m,an0,[]⟩).2.ops=[]:=by
 refine⟨?_,?_,?_,?_⟩
 ·unfold rO;split<;>rfl
 ·unfold nN;split
  ·split
   ·split<;>rfl
   ·rfl
  ·rfl
 ·unfold kI;split<;>rfl
 ·unfold qP;split<;>rfl
theorem aOs{m:Mdl}{c:Cal}(hc:chkC c=true)(h9:c.kind=9):
  ∃m' e,(if(kI c ⟨m,an0,[]⟩).1=0 then AV.tup [bC false false false false (kI c ⟨m,an0,[]⟩).2.m,.int .i64 0]else .tup [bC false false false false m,.int .i64 191])=.tup [bC false false false false m',.int .i64 e]∧doM m c=(m',gR e,[]):=by
 have e:doM m c=if(kI c ⟨m,an0,[]⟩).1=0 then((kI c ⟨m,an0,[]⟩).2.m,an0,[])else(m,gR 191,[]):=by
  unfold doM
  rw[zAb (by rw[hc];simp),(qR (c:=c) ⟨m,an0,[]⟩).2.2.2.2.2.2.2.1 h9]
  unfold kI
  split<;>simp
 rw[e]
 by_cases h0:(kI c ⟨m,an0,[]⟩).1=0
 ·rw[zAc h0,zAc h0];exact⟨_,0,rfl,rfl⟩
 ·rw[zAb h0,zAb h0];exact⟨_,_,rfl,rfl⟩
theorem aG3:∀(l:List Opn) {g:Lg},g.entries.length≤200→(eQ g l).entries.length≤200
 |[],_,h=>h
 |o::l,g,h=>aG3 l (g:=dU g o) (by have:=oX g o;omega)
theorem aEu(m:Mdl)(l:List Opn)(o:Opn):jF m (l++[o])={jF m l with log:=dU (eQ m.log l) o,seen:=if opOk o=true then bY (jF m l).seen o.at_ else(jF m l).seen}:=by
 unfold jF
 rw[aCd,zBL]
 rfl
theorem aLH{m:Mdl}(h:MI m){c:Cal}(hc:chkC c=true)(hk:c.kind=13):
  ∃m' o e,opV m (lW c ⟨m,an0,[]⟩)=.tup [bC false false false false m',.sl false (o.map opA),.int .i64 e]∧doM m c=(m',{an0 with err:=e,n:=(o.length:Int)},o):=by
 have hw:dH c ⟨m,an0,[]⟩=lW c ⟨m,an0,[]⟩:=(qR _).2.2.2.2.2.2.2.2.2.2.2 hk
 have hs:=aBX h hc
 unfold doM
 rw[zAb (by rw[hc];simp),hw]
 rcases rW (c:=c) (d:=⟨m,an0,[]⟩)with⟨e,he,hr⟩|⟨l,hr,hcap,hm⟩
 ·rw[hr];exact⟨m,[],e,eS he,zAb he⟩
 ·rw[hm]
  refine⟨tellM m (mergeM m l),freshN m.log [] l,0,zAc rfl,?_⟩
  simp only[zAU]
  rw[zAG]
  by_cases e:freshN m.log [] l=[]
  ·have hlog:(mergeM m l).log=m.log:=by unfold mergeM;rw[e];rfl
   have ht:tellM m (mergeM m l)=mergeM m l:=by
    unfold tellM
    rw[hlog]
    have:(mergeM m l).watches.map (pC m.log.nodes m.log.nodes)=(mergeM m l).watches:=by
     conv=>rhs;rw[←List.map_id (mergeM m l).watches]
     exact zBM fun w _=>aB2 h.nos w
    rw[this]
    show({mergeM m l with log:=m.log}:Mdl)=mergeM m l
    rw[←hlog]
   rw[zAc e,ht,e];rfl
  ·rw[zAb e];rfl
def cC:List Pl:=[.pure 0,.pure 0,.free,.eff [true,false],.eff [false],.free]
def kN:List Pl:=[.pure 0,.pure 0,.free,.free,.pure 0,.pure 0,.pure 0,.free,.free,.free,.pure 0,.eff [false,false,false,false,false,false]]
def kO:List Pl:=[.pure 0,.pure 0,.free,.free,.pure 0,.pure 0,.pure 0,.free,.pure 0,.pure 0,.eff [false,false,false,false,false,false,false]]
attribute [go_sem] cC kN kO
theorem aOt(f1 f2 f3 f4:Bool)(m:Mdl)(h:MI m){q:Int}(hu:HU m q)(c:Cal)(hc:CS c)(H:AHeap):bD Tryz.prog 11 [bC f1 f2 f3 f4 m,fJ c] H (doV (doM m c)):=by
 refine fO Tryz.func11 ?_
 have hp1:=hc.path
 have hp2:=hc.to
 have hck:=aFx c (by omega) (by omega)
 cases hk:chkC c with
 |false=>
  rw[hk]at hck
  unfold doM
  rw[zAc hk]
  simp only[fJ]at hck
  simp only[bC,dN,fJ]
  repeat' first|((first|refine mx [29] cC ?_|refine gS ?_);simp only[go_sem])|refine gA ?_|(refine gD (fun h=>?_) (fun h=>?_)<;>try exact aA h)|fail
  exact dY (jM f1 f2 f3 f4 true true true m (gR 180) [])
 |true=>
  rw[hk]at hck
  have hx:=hk
  rw[aPn]at hx
  by_cases h12:c.kind=1∨c.kind=2
  ·have hpa:dW c.path=true:=by rcases h12 with e|e<;>(rw[e]at hx;simp[gV,isP]at hx;exact hx.1.1.1)
   have hw:=(qR (c:=c) ⟨m,an0,[]⟩).1 h12
   have hcr:=aEn f1 f2 f3 f4 m h c hpa (by omega)
   obtain⟨m',o,e,e1,e2⟩:=aDa hk hw (by
    rcases qD (c:=c) (d:=⟨m,an0,[]⟩) h with h|⟨dir,s, -, -, -, -, -,h⟩
    ·exact .inl h
    ·exact .inr ⟨_,h⟩)
   rw[e1]at hcr
   rw[e2]
   obtain⟨k,p,t,d,n⟩:=c
   simp only at h12
   simp only[bC,dN,fJ]at hck hcr ⊢
   rcases h12 with rfl|rfl
   ·repeat' first|((first|refine mx [29] cC ?_|refine gS ?_);simp only[go_sem,Int.reduceEq])|refine gA ?_|(refine gD (fun h=>?_) (fun h=>?_)<;>try exact aA h)|fail
    exact dY (jM false false false false true true false m' (gR e) o)
   ·repeat' first|((first|refine mx [29] cC ?_|refine gS ?_);simp only[go_sem,Int.reduceEq])|refine gA ?_|(refine gD (fun h=>?_) (fun h=>?_)<;>try exact aA h)|fail
    exact dY (jM false false false false true true false m' (gR e) o)
  by_cases h3:c.kind=3
  ·have hpa:dW c.path=true:=by(rw[h3]at hx;simp[gV,isP]at hx;exact hx.1.1.1)
   have hda:c.data.length≤64:=vU hk h3
   have hw:=(qR (c:=c) ⟨m,an0,[]⟩).2.1 h3
   have hcr:=aFL f1 f2 f3 f4 m h c hpa (by omega) hda
   obtain⟨m',o,e,e1,e2⟩:=aDa hk hw (by
    rcases oI (c:=c) (d:=⟨m,an0,[]⟩) h hda with h|⟨_, -, -, -, -,h⟩
    ·exact .inl h
    ·exact .inr ⟨_,h⟩)
   rw[e1]at hcr
   rw[e2]
   obtain⟨k,p,t,d,n⟩:=c
   simp only at h3
   simp only[bC,dN,fJ]at hck hcr ⊢
   subst h3
   repeat' first|((first|refine mx [29] cC ?_|refine gS ?_);simp only[go_sem,Int.reduceEq])|refine gA ?_|(refine gD (fun h=>?_) (fun h=>?_)<;>try exact aA h)|fail
   exact dY (jM false false false false true true false m' (gR e) o)
  by_cases h5:c.kind=5
  ·have hpa:dW c.path=true∧dW c.to=true:=by(rw[h5]at hx;simp[gV,isP]at hx;exact hx.1.1)
   obtain⟨hpa,hpb⟩:=hpa
   have hw:=(qR (c:=c) ⟨m,an0,[]⟩).2.2.2.1 h5
   have hcr:=aIq f1 f2 f3 f4 m h c hpa (by omega) hpb (by omega)
   obtain⟨m',o,e,e1,e2⟩:=aDa hk hw (by
    rcases uD (c:=c) (d:=⟨m,an0,[]⟩) h with h|⟨_,_,_,h⟩
    ·exact .inl h
    ·exact .inr ⟨_,h.2.2.2.2.2.2.2.2.2⟩)
   rw[e1]at hcr
   rw[e2]
   obtain⟨k,p,t,d,n⟩:=c
   simp only at h5
   simp only[bC,dN,fJ]at hck hcr ⊢
   subst h5
   repeat' first|((first|refine mx [29] cC ?_|refine gS ?_);simp only[go_sem,Int.reduceEq])|refine gA ?_|(refine gD (fun h=>?_) (fun h=>?_)<;>try exact aA h)|fail
   exact dY (jM false false false false true true false m' (gR e) o)
  by_cases h6:c.kind=6
  ·have hpa:dW c.path=true:=by(rw[h6]at hx;simp[gV,isP]at hx;exact hx.1.1.1)
   have hw:=(qR (c:=c) ⟨m,an0,[]⟩).2.2.2.2.1 h6
   have hcr:=aEp f1 f2 f3 f4 m h c hpa (by omega)
   obtain⟨m',o,e,e1,e2⟩:=aDa hk hw (by
    rcases qE (c:=c) (d:=⟨m,an0,[]⟩) h with h|⟨_,_,h⟩
    ·exact .inl h
    ·exact .inr ⟨_,h.2.2.2.2.2⟩)
   rw[e1]at hcr
   rw[e2]
   obtain⟨k,p,t,d,n⟩:=c
   simp only at h6
   simp only[bC,dN,fJ]at hck hcr ⊢
   subst h6
   repeat' first|((first|refine mx [29] cC ?_|refine gS ?_);simp only[go_sem,Int.reduceEq])|refine gA ?_|(refine gD (fun h=>?_) (fun h=>?_)<;>try exact aA h)|fail
   exact dY (jM false false false false true true false m' (gR e) o)
  by_cases h47:c.kind=4∨c.kind=7
  ·have hpa:dW c.path=true:=by rcases h47 with e|e<;>(rw[e]at hx;simp[gV,isP]at hx;exact hx.1.1.1)
   have hcr:=aLv f1 f2 f3 f4 m h c h47 hpa (by omega)
   obtain⟨a,e1,e2⟩:∃a,aIp (if c.kind=4 then nM c ⟨m,an0,[]⟩else lsD c ⟨m,an0,[]⟩)=jX false false a∧doM m c=(m,a,[]):=by
    rcases h47 with e|e
    ·rw[zAc e];exact aLG hk ((qR (c:=c) ⟨m,an0,[]⟩).2.2.1 e) aPu.1
    ·rw[zAb (by omega)];exact aLG hk ((qR (c:=c) ⟨m,an0,[]⟩).2.2.2.2.2.1 e) aPu.2
   rw[e1]at hcr
   rw[e2]
   obtain⟨k,p,t,d,n⟩:=c
   simp only at h47
   simp only[bC,dN,fJ,jX]at hck hcr ⊢
   rcases h47 with rfl|rfl
   all_goals
    repeat' first|((first|refine mx [29] cC ?_|refine gS ?_);simp only[go_sem,Int.reduceEq,jX])|refine gA ?_|(refine gD (fun h=>?_) (fun h=>?_)<;>try exact aA h)|fail
    exact dY (jM f1 f2 f3 f4 false false true m a [])
  by_cases h8:c.kind=8
  ·have hcr:=aIt f1 f2 f3 f4 m h c h8
   obtain⟨m',a,e1,e2⟩:=aDb hk ((qR (c:=c) ⟨m,an0,[]⟩).2.2.2.2.2.2.1 h8) (fun _=>(aFT (c:=c)).1)
   rw[e1]at hcr
   rw[e2]
   obtain⟨k,p,t,d,n⟩:=c
   simp only at h8
   simp only[bC,dN,fJ,jX]at hck hcr ⊢
   subst h8
   repeat' first|((first|refine mx [29] cC ?_|refine gS ?_);simp only[go_sem,Int.reduceEq,jX])|refine gA ?_|(refine gD (fun h=>?_) (fun h=>?_)<;>try exact aA h)|fail
   exact dY (jM false false false false false false true m' a [])
  by_cases h10:c.kind=10
  ·have hpa:dW c.path=true:=by(rw[h10]at hx;simp[gV,isP]at hx;exact hx.1.1.1)
   have hcr:=aFQ f1 f2 f3 f4 m h c h10 hpa (by omega)
   obtain⟨m',a,e1,e2⟩:=aDb hk ((qR (c:=c) ⟨m,an0,[]⟩).2.2.2.2.2.2.2.2.1 h10) (fun _=>(aFT (c:=c)).2.1)
   rw[e1]at hcr
   rw[e2]
   obtain⟨k,p,t,d,n⟩:=c
   simp only at h10
   simp only[bC,dN,fJ,jX]at hck hcr ⊢
   subst h10
   repeat' first|((first|refine mx [29] cC ?_|refine gS ?_);simp only[go_sem,Int.reduceEq,jX])|refine gA ?_|(refine gD (fun h=>?_) (fun h=>?_)<;>try exact aA h)|fail
   exact dY (jM false false false false false false true m' a [])
  by_cases h11:c.kind=11
  ·have hcr:=aIv f1 f2 f3 f4 m h hu c
   obtain⟨m',a,e1,e2⟩:=aDb hk ((qR (c:=c) ⟨m,an0,[]⟩).2.2.2.2.2.2.2.2.2.1 h11) (fun _=>(aFT (c:=c)).2.2.2)
   rw[e1]at hcr
   rw[e2]
   obtain⟨k,p,t,d,n⟩:=c
   simp only at h11
   simp only[bC,dN,fJ,jX]at hck hcr ⊢
   subst h11
   repeat' first|((first|refine mx [29] cC ?_|refine gS ?_);simp only[go_sem,Int.reduceEq,jX])|refine gA ?_|(refine gD (fun h=>?_) (fun h=>?_)<;>try exact aA h)|fail
   exact dY (jM false false false false false false true m' a [])
  by_cases h9:c.kind=9
  ·have hcr:=aIu f1 f2 f3 f4 m h c
   obtain⟨m',a,e1,e2⟩:=aOs (m:=m) hk h9
   rw[e1]at hcr
   rw[e2]
   obtain⟨k,p,t,d,n⟩:=c
   simp only at h9
   simp only[bC,dN,fJ,jX]at hck hcr ⊢
   subst h9
   repeat' first|((first|refine mx [29] cC ?_|refine gS ?_);simp only[go_sem,Int.reduceEq,jX])|refine gA ?_|(refine gD (fun h=>?_) (fun h=>?_)<;>try exact aA h)|fail
   exact dY (jM false false false false true true true m' (gR a) [])
  by_cases h13:c.kind=13
  ·have hcr:=aFN f1 f2 f3 f4 m h c (by have:=hc.data;omega)
   obtain⟨m',o,e,e1,e2⟩:=aLH h hk h13
   rw[e1]at hcr
   rw[e2]
   obtain⟨k,p,t,d,n⟩:=c
   simp only at h13
   simp only[bC,dN,fJ,jX]at hck hcr ⊢
   subst h13
   repeat' first|((first|refine mx [29] cC ?_|refine gS ?_);simp only[go_sem,Int.reduceEq,jX])|refine gA ?_|(refine gD (fun h=>?_) (fun h=>?_)<;>try exact aA h)|fail
   exact dY (jM false false false false true true false m' {an0 with err:=e,n:=(o.length:Int)} o)
  have h12:c.kind=12:=by
   rcases rX hk with e|e|e|e|e|e|e|e|e|e|e|e|e<;>first|exact e|(exfalso;omega)
  have e2:doM m c=(m,an0,[]):=by
   unfold doM
   rw[zAb (by rw[hk];simp),(qR (c:=c) ⟨m,an0,[]⟩).2.2.2.2.2.2.2.2.2.2.1 h12,zAc rfl,zAc rfl]
  rw[e2]
  obtain⟨k,p,t,d,n⟩:=c
  simp only at h12
  simp only[bC,dN,fJ]at hck ⊢
  subst h12
  repeat' first|((first|refine mx [29] cC ?_|refine gS ?_);simp only[go_sem,Int.reduceEq,jX])|refine gA ?_|(refine gD (fun h=>?_) (fun h=>?_)<;>try exact aA h)|fail
  exact dY (jM f1 f2 f3 f4 true true true m an0 [])
theorem aEv(f1 f2 f3 f4 b:Bool)(m:Mdl)(h:MI m)(l:List Opn)(ho:∀o∈l,OpS o)(hl:l.length≤100000)(H:AHeap):
  bD Tryz.prog 15 [bC f1 f2 f3 f4 m,.sl b (l.map opA)] H (bC false false false false (jF m l)):=by
 refine fO Tryz.func15 ?_
 have hent:=h.cap
 simp only[bC,dN]
 repeat' first|((first|refine mx [6] kN ?_|refine mx [7] kO ?_|refine gS ?_);simp only[go_sem])|refine gA ?_|(refine gD (fun h=>?_) (fun h=>?_)<;>try exact aA h)|fail
 refine aH (ι:=Nat×Bool×Bool) (fun x=>[(1,.sl b (l.map opA)),(2,.ref H.length 0 0),(4,.ref (H.length+1) 0 0),(5,.int .i64 x.1)])
  (fun x=>H++[.cells 0 (bC x.2.1 x.2.2 f3 f4 (jF m (l.take x.1))).cells,.cells 0 (bC true true true true sL).cells])
  (fun x=>x.1≤l.length) (fun x=>l.length-x.1) (0,f1,f2) (zAn _) ?_ rfl ?_
 ·simp[go_sem]
 rintro⟨i,g1,g2⟩ hi
 simp only at hi ⊢
 by_cases hlt:i<l.length
 ·have hp:=aJ opA hlt
  have hli:decide ((i:Int)<(l.length:Int))=true:=dT
  have htk:l.take (i+1)=l.take i++[l[i]]:=zAa hlt
  have hg:=vF h.good (l.take i)
  have hle:=aG3 (l.take i) hent
  have hoi:=ho _ (zAF hlt)
  have hrs:=aEu m (l.take i) l[i]
  rw[←htk]at hrs
  have hck:=vS l[i] hoi
  have hradd:=aLa g1 g2 (eQ m.log (l.take i)) l[i] hoi (yD hg) (by omega)
  rw[aDI hg]at hradd
  obtain⟨r,hr⟩:∃r,r=jF m (l.take i):=⟨_,rfl⟩
  have hrl:eQ m.log (l.take i)=r.log:=by rw[hr];rfl
  rw[←hr]at hrs
  rw[hrl]at hrs hradd
  have hseen:=yE r.seen l[i].at_ true
  rw[←hr]
  generalize(g1&&tK r.log l[i])=g3 at hradd
  generalize(g2&&tK r.log l[i])=g4 at hradd
  generalize oQ r.log l[i]=e at hradd
  have hfin:r.rep=m.rep∧r.snaps=m.snaps∧r.watches=m.watches∧r.next=m.next:=by rw[hr];exact⟨rfl,rfl,rfl,rfl⟩
  obtain⟨o,hoe⟩:∃o,o=l[i]:=⟨_,rfl⟩
  rw[←hoe]at hp hradd hseen hck hrs
  cases hok:opOk o with
  |true=>
   rw[hok]at hck hrs
   rw[zAc rfl]at hrs
   simp only[qT,opA]at hp hradd hck
   repeat' first|((first|refine mx [6] kN ?_|refine mx [7] kO ?_|refine gS ?_);simp only[go_sem,hp,hli,bC,dN])|refine gA ?_|(refine gD (fun h=>?_) (fun h=>?_)<;>try exact aA h)|fail
   exact⟨(i+1,g3,g4),hlt,by simp only;omega,zAp _ (aK hlt (by omega)),by simp only[hrs]⟩
  |false=>
   rw[hok]at hck hrs
   rw[zAb (by simp)]at hrs
   have hsame:dU r.log o=r.log:=by unfold dU;rw[zAc hok]
   rw[hsame]at hrs
   simp only[qT,opA]at hp hck
   repeat' first|((first|refine mx [6] kN ?_|refine mx [7] kO ?_|refine gS ?_);simp only[go_sem,hp,hli,bC,dN])|refine gA ?_|(refine gD (fun h=>?_) (fun h=>?_)<;>try exact aA h)|fail
   exact⟨(i+1,g1,g2),hlt,by simp only;omega,zAp _ (aK hlt (by omega)),by simp only[hrs]⟩
 ·have hie:i=l.length:=by omega
  have hli:decide ((i:Int)<(l.length:Int))=false:=dF
  rw[hie,zAq]
  rw[hie]at hli
  repeat' first|((first|refine mx [6] kN ?_|refine mx [7] kO ?_|refine gS ?_);simp only[go_sem,hli,bC,dN])|refine gA ?_|(refine gD (fun h=>?_) (fun h=>?_)<;>try exact aA h)|fail
  exact dY (aLC g1 g2 f3 f4 (jF m l))
end Go.Proofs.YtolbeecicikoaaaGreatDoor

/- The texts 37 of 53 beneath the rows of this seat (joined by program): the abstract machine, and what the functions answer. No condition. -/
import Derived.Test.YtolbeecicikoaaaGreatDoorWorkAU
import Derived.Test.YtolbeecicikoaaaGreatDoorWorkAV
import Derived.Test.YtolbeecicikoaaaGreatDoorWorkBJ
set_option linter.unusedSimpArgs false
set_option linter.unusedVariables false
set_option linter.unusedSectionVars false
set_option maxRecDepth 100000
set_option maxHeartbeats 16000000
namespace Go.Proofs.YtolbeecicikoaaaGreatDoor
structure CS (c:Cal):Prop where
 path:c.path.length≤1048576
 to:c.to.length≤1048576
 data:c.data.length≤1048576
theorem aB9{l:List Nd}{p:Txt}{dir:Int}{s:Txt}(h:abvN l p=(dir,s,0)):s.length≤80:=by
 obtain⟨ns,hn, -, -⟩:=aB0 h
 exact uB (rV hn s (by simp))
theorem aGQ{i j:Nat}{c:Cal}{d:Dsk}{G:AHeap}(hb:KB i j c d G)(hs:DS d.m)(hc:CS c)(hl:d.ops.length≤1000000):vW Tryz.prog 46 i j c (qO c d) G:=by
 refine aO Tryz.func46 ?_
 have r0:=hb.b1;have r1:=aR hb.b1 trivial;have r2:=aR hb.b2 trivial;have hne:=hb.ne;have hl1:=hb.lt1;have hl2:=hb.lt2;have r3:=hb.r3;have r4:=hb.r4;have hnl:=aC G i;simp only[dkC]at r0 r1;have qs:=lP hl1 hl2 hne rfl
 unfold qO
 by_cases h1:c.path=[47]
 ·have d1:decide (c.path=[47])=true:=zAd h1
  rw[zAc h1]
  repeat' first|(refine gS ?_;simp only[go_sem,r0,r1,r2,r3,r4,hnl,qs,aC,d1])|refine gA ?_|(refine gD (fun h=>?_) (fun h=>?_)<;>try exact aA h)|fail
  exact cE hb rfl hb.own.symm
 have d1:decide (c.path=[47])=false:=eT h1
 rw[zAb h1]
 have hab:=aPl false d.m.log.nodes c.path (by have:=hs.nodes;omega) hc.path
 obtain⟨⟨dir,s,e⟩,ha⟩:∃x,abvN d.m.log.nodes c.path=x:=⟨_,rfl⟩
 rw[ha]at hab ⊢
 simp only[aH4]at hab
 by_cases he:e=0
 ·subst he
  simp only[zAU]
  have hch:=aCz false d.m.log.nodes dir s (by have:=hs.nodes;omega)
  cases hcn:childN d.m.log.nodes dir s with
  |some n=>
   simp only[hcn,jK,zBR,zBs,zBf]at hch
   simp only[zBf,zAU]
   repeat' first|(refine gS ?_;simp only[go_sem,r0,r1,r2,r3,r4,hnl,qs,aC,d1])|refine gA ?_|(refine gD (fun h=>?_) (fun h=>?_)<;>try exact aA h)|fail
   exact cE hb rfl hb.own.symm
  |none=>
   simp only[hcn,jK,zB6,zBV,zBy]at hch
   rw[zAb (by simp)]
   have hnx:=fun L=>aCZ j c d i (by have:=hs.ents;omega) (G++L) (hb.app L).b1
   have hnx0:=aCZ j c d i (by have:=hs.ents;omega) G hb.b1
   obtain⟨⟨st,f⟩,hn⟩:∃x,nextD d.m=x:=⟨_,rfl⟩
   simp only[hn,stA]at hnx hnx0 ⊢
   by_cases hf:f=0
   ·subst hf
    rw[zAc rfl]
    have hid:=aWe st.c st.r (decide (c.kind=1))
    repeat' first|((first|refine aY (hnx0) (cO) ?_|refine aZ (hnx0) (cO) ?_|refine bA (fun _=>hnx0) (cO) ?_|refine gS ?_);simp only[go_sem,r0,r1,r2,r3,r4,hnl,qs,aC,d1])|refine gA ?_|(refine gD (fun h=>?_) (fun h=>?_)<;>try exact aA h)|fail
    refine aV (zZ (hb.app _) hs (o:=⟨lT,1,idI st.c st.r (decide (c.kind=1)),dir,s,[]⟩) ⟨by have:=aB9 ha;simp only;omega,by simp⟩ hl) (cO) ?_
    rintro v H' ⟨rfl,rfl⟩
    rw[hb.happ]
    simp only[go_sem]
    repeat' first|(refine gS ?_;simp only[go_sem])|refine gA ?_|(refine gD (fun h=>?_) (fun h=>?_)<;>try exact aA h)|fail
    exact lX hb rfl rfl
   ·have hd:decide (f=0)=false:=eT hf
    rw[zAb hf]
    repeat' first|((first|refine aY (hnx0) (cO) ?_|refine aZ (hnx0) (cO) ?_|refine bA (fun _=>hnx0) (cO) ?_|refine gS ?_);simp only[go_sem,r0,r1,r2,r3,r4,hnl,qs,aC,d1,hd])|refine gA ?_|(refine gD (fun h=>?_) (fun h=>?_)<;>try exact aA h)|fail
    exact lX hb rfl hb.own.symm
 ·have hd:decide (e=0)=false:=eT he
  simp only[zAb he]
  repeat' first|(refine gS ?_;simp only[go_sem,r0,r1,r2,r3,r4,hnl,qs,aC,d1,hd])|refine gA ?_|(refine gD (fun h=>?_) (fun h=>?_)<;>try exact aA h)|fail
  exact cE hb rfl hb.own.symm
theorem aLh{i j:Nat}{c:Cal}{d:Dsk}{G:AHeap}(hb:KB i j c d G)(hs:DS d.m)(hc:CS c)(hl:d.ops.length≤1000000):vW Tryz.prog 47 i j c (nL c d) G:=by
 refine aO Tryz.func47 ?_
 have r0:=hb.b1;have r1:=aR hb.b1 trivial;have r2:=aR hb.b2 trivial;have hne:=hb.ne;have hl1:=hb.lt1;have hl2:=hb.lt2;have r3:=hb.r3;have r4:=hb.r4;have hnl:=aC G i;simp only[dkC]at r0 r1;have qs:=lP hl1 hl2 hne rfl
 unfold nL
 have hat:=aH5 false d.m.log.nodes c.path (by have:=hs.nodes;omega) hc.path
 obtain⟨⟨id,e⟩,ha⟩:∃x,atN d.m.log.nodes c.path=x:=⟨_,rfl⟩
 rw[ha]at hat ⊢
 simp only[jS]at hat
 by_cases he:e=0
 ·subst he
  simp only[zAU]
  have hdd:=aAC id
  cases hdi:dirI id with
  |true=>
   rw[hdi]at hdd
   rw[zAc rfl]
   repeat' first|(refine gS ?_;simp only[go_sem,r0,r1,r2,r3,r4,hnl,qs,aC])|refine gA ?_|(refine gD (fun h=>?_) (fun h=>?_)<;>try exact aA h)|fail
   exact cE hb rfl hb.own.symm
  |false=>
   rw[hdi]at hdd
   rw[zAb (by simp)]
   repeat' first|(refine gS ?_;simp only[go_sem,r0,r1,r2,r3,r4,hnl,qs,aC])|refine gA ?_|(refine gD (fun h=>?_) (fun h=>?_)<;>try exact aA h)|fail
   refine aV (zZ hb hs (o:=⟨lT,2,id,0,[],c.data⟩) ⟨by simp,by have:=hc.data;simp only;omega⟩ hl) (cO) ?_
   rintro v H' ⟨rfl,rfl⟩
   simp only[go_sem]
   repeat' first|(refine gS ?_;simp only[go_sem])|refine gA ?_|(refine gD (fun h=>?_) (fun h=>?_)<;>try exact aA h)|fail
   exact cE hb rfl rfl
 ·have hd:decide (e=0)=false:=eT he
  simp only[zAb he]
  repeat' first|(refine gS ?_;simp only[go_sem,r0,r1,r2,r3,r4,hnl,qs,aC,hd])|refine gA ?_|(refine gD (fun h=>?_) (fun h=>?_)<;>try exact aA h)|fail
  exact cE hb rfl hb.own.symm
theorem aBb{m:Mdl}(hs:DS m){n:Int}{l:List Nd}(h:fR m n=some l):l.length≤1000000:=by
 unfold fR at h
 split at h
 ·cases h;exact hs.nodes
 ·obtain⟨s,hf,rfl⟩:=zAR.1 h
  exact hs.snap s (zA5 hf)
theorem aNU{i j:Nat}{c:Cal}{d:Dsk}{G:AHeap}(hb:KB i j c d G)(hs:DS d.m)(hc:CS c)(hsm:∀l,fR d.m c.n=some l→SmN l):vW Tryz.prog 48 i j c (nM c d) G:=by
 refine aO Tryz.func48 ?_
 have r0:=hb.b1;have r1:=aR hb.b1 trivial;have r2:=aR hb.b2 trivial;have hne:=hb.ne;have hl1:=hb.lt1;have hl2:=hb.lt2;have r3:=hb.r3;have r4:=hb.r4;have hnl:=aC G i;simp only[dkC]at r0 r1;have qs:=lP hl1 hl2 hne rfl
 unfold nM
 have hnd:=aGI d.m c.n i _ hs.snaps G hb.b1
 cases hn:fR d.m c.n with
 |none=>
  rw[hn]at hnd
  simp only[aA6]at hnd
  repeat' first|((first|refine aY (hnd) (cO) ?_|refine aZ (hnd) (cO) ?_|refine bA (fun _=>hnd) (cO) ?_|refine gS ?_);simp only[go_sem,r0,r1,r2,r3,r4,hnl,qs,aC])|refine gA ?_|(refine gD (fun h=>?_) (fun h=>?_)<;>try exact aA h)|fail
  exact cE hb rfl hb.own.symm
 |some l=>
  rw[hn]at hnd
  simp only[aA6]at hnd
  have hl:l.length≤1000000:=aBb hs hn
  have hat:=aH5 false l c.path (by omega) hc.path
  simp only
  obtain⟨⟨id,e⟩,ha⟩:∃x,atN l c.path=x:=⟨_,rfl⟩
  rw[ha]at hat ⊢
  simp only[jS]at hat
  by_cases he:e=0
  ·subst he
   simp only[zAU]
   have hdd:=aAC id
   cases hdi:dirI id with
   |true=>
    rw[hdi]at hdd
    rw[zAc rfl]
    repeat' first|((first|refine aY (hnd) (cO) ?_|refine aZ (hnd) (cO) ?_|refine bA (fun _=>hnd) (cO) ?_|refine gS ?_);simp only[go_sem,r0,r1,r2,r3,r4,hnl,qs,aC])|refine gA ?_|(refine gD (fun h=>?_) (fun h=>?_)<;>try exact aA h)|fail
    exact cE hb rfl hb.own.symm
   |false=>
    rw[hdi]at hdd
    rw[zAb (by simp)]
    have hf:=aQY false l id
    simp only[ndV,ndA]at hf
    repeat' first|((first|refine aY (hnd) (cO) ?_|refine aZ (hnd) (cO) ?_|refine bA (fun _=>hnd) (cO) ?_|refine gS ?_);simp only[go_sem,r0,r1,r2,r3,r4,hnl,qs,aC])|refine gA ?_|(refine gD (fun h=>?_) (fun h=>?_)<;>try exact aA h)|fail
    exact lX hb rfl (hb.one (d':={d with a:={d.a with data:=((findI l id).getD nd0).data}}) rfl)
  ·have hd:decide (e=0)=false:=eT he
   simp only[zAb he]
   repeat' first|((first|refine aY (hnd) (cO) ?_|refine aZ (hnd) (cO) ?_|refine bA (fun _=>hnd) (cO) ?_|refine gS ?_);simp only[go_sem,r0,r1,r2,r3,r4,hnl,qs,aC,hd])|refine gA ?_|(refine gD (fun h=>?_) (fun h=>?_)<;>try exact aA h)|fail
   exact cE hb rfl hb.own.symm
theorem aUB{i j:Nat}{c:Cal}{d:Dsk}{G:AHeap}(hb:KB i j c d G)(hs:DS d.m)(hc:CS c)(hsm:∀l,fR d.m c.n=some l→SmN l):vW Tryz.prog 51 i j c (lsD c d) G:=by
 refine aO Tryz.func51 ?_
 have r0:=hb.b1;have r1:=aR hb.b1 trivial;have r2:=aR hb.b2 trivial;have hne:=hb.ne;have hl1:=hb.lt1;have hl2:=hb.lt2;have r3:=hb.r3;have r4:=hb.r4;have hnl:=aC G i;simp only[dkC]at r0 r1;have qs:=lP hl1 hl2 hne rfl
 unfold lsD
 have hnd:=aGI d.m c.n i _ hs.snaps G hb.b1
 cases hn:fR d.m c.n with
 |none=>
  rw[hn]at hnd
  simp only[aA6]at hnd
  repeat' first|((first|refine aY (hnd) (cO) ?_|refine aZ (hnd) (cO) ?_|refine bA (fun _=>hnd) (cO) ?_|refine gS ?_);simp only[go_sem,r0,r1,r2,r3,r4,hnl,qs,aC])|refine gA ?_|(refine gD (fun h=>?_) (fun h=>?_)<;>try exact aA h)|fail
  exact cE hb rfl hb.own.symm
 |some l=>
  rw[hn]at hnd
  simp only[aA6]at hnd
  have hl:l.length≤1000000:=aBb hs hn
  have hat:=aH5 false l c.path (by omega) hc.path
  simp only
  obtain⟨⟨id,e⟩,ha⟩:∃x,atN l c.path=x:=⟨_,rfl⟩
  rw[ha]at hat ⊢
  simp only[jS]at hat
  by_cases he:e=0
  ·subst he
   simp only[zAU]
   have hdd:=aAC id
   cases hdi:dirI id with
   |true=>
    rw[hdi]at hdd
    rw[zAc rfl]
    have hf:=aVp false l id (by omega) (hsm l hn)
    repeat' first|((first|refine aY (hnd) (cO) ?_|refine aZ (hnd) (cO) ?_|refine bA (fun _=>hnd) (cO) ?_|refine gS ?_);simp only[go_sem,r0,r1,r2,r3,r4,hnl,qs,aC])|refine gA ?_|(refine gD (fun h=>?_) (fun h=>?_)<;>try exact aA h)|fail
    exact cE hb rfl (hb.one (d':={d with a:={d.a with names:=nJ l id}}) rfl)
   |false=>
    rw[hdi]at hdd
    rw[zAb (by simp)]
    repeat' first|((first|refine aY (hnd) (cO) ?_|refine aZ (hnd) (cO) ?_|refine bA (fun _=>hnd) (cO) ?_|refine gS ?_);simp only[go_sem,r0,r1,r2,r3,r4,hnl,qs,aC])|refine gA ?_|(refine gD (fun h=>?_) (fun h=>?_)<;>try exact aA h)|fail
    exact cE hb rfl hb.own.symm
  ·have hd:decide (e=0)=false:=eT he
   simp only[zAb he]
   repeat' first|((first|refine aY (hnd) (cO) ?_|refine aZ (hnd) (cO) ?_|refine bA (fun _=>hnd) (cO) ?_|refine gS ?_);simp only[go_sem,r0,r1,r2,r3,r4,hnl,qs,aC,hd])|refine gA ?_|(refine gD (fun h=>?_) (fun h=>?_)<;>try exact aA h)|fail
   exact cE hb rfl hb.own.symm
theorem aIi{i j:Nat}{c:Cal}{d:Dsk}{G:AHeap}(hb:KB i j c d G)(hs:DS d.m)(hc:CS c)(hl:d.ops.length≤1000000):vW Tryz.prog 50 i j c (lE c d) G:=by
 refine aO Tryz.func50 ?_
 have r0:=hb.b1;have r1:=aR hb.b1 trivial;have r2:=aR hb.b2 trivial;have hne:=hb.ne;have hl1:=hb.lt1;have hl2:=hb.lt2;have r3:=hb.r3;have r4:=hb.r4;have hnl:=aC G i;simp only[dkC]at r0 r1;have qs:=lP hl1 hl2 hne rfl
 unfold lE
 by_cases h1:c.path=[47]
 ·have d1:decide (c.path=[47])=true:=zAd h1
  rw[zAc h1]
  repeat' first|(refine gS ?_;simp only[go_sem,r0,r1,r2,r3,r4,hnl,qs,aC,d1])|refine gA ?_|(refine gD (fun h=>?_) (fun h=>?_)<;>try exact aA h)|fail
  exact cE hb rfl hb.own.symm
 have d1:decide (c.path=[47])=false:=eT h1
 rw[zAb h1]
 have hat:=aH5 false d.m.log.nodes c.path (by have:=hs.nodes;omega) hc.path
 obtain⟨⟨id,e⟩,ha⟩:∃x,atN d.m.log.nodes c.path=x:=⟨_,rfl⟩
 rw[ha]at hat ⊢
 simp only[jS]at hat
 by_cases he:e=0
 ·subst he
  simp only[zAU]
  have hsp:=aCB c.path hc.path
  unfold vK at hsp
  cases hn:bV c.path with
  |none=>
   simp only[hn]at hsp
   repeat' first|(refine gS ?_;simp only[go_sem,r0,r1,r2,r3,r4,hnl,qs,aC,d1])|refine gA ?_|(refine gD (fun h=>?_) (fun h=>?_)<;>try exact aA h)|fail
   exact cE hb rfl hb.own.symm
  |some ns=>
   simp only[hn,d1]at hsp
   cases ns with
   |nil=>
    repeat' first|(refine gS ?_;simp only[go_sem,r0,r1,r2,r3,r4,hnl,qs,aC,d1])|refine gA ?_|(refine gD (fun h=>?_) (fun h=>?_)<;>try exact aA h)|fail
    exact cE hb rfl hb.own.symm
   |cons x xs=>
    have hlen:=jU hn
    rw[zAm]at hlen
    have hw:IntKind.i64.wrap (((xs.length+1:Nat):Int)-1)=(xs.length:Int):=by rw[wI];omega
    have hd:decide (((xs.length+1:Nat):Int)=0)=false:=dF
    have hgd:(AV.str x::xs.map AV.str).getD xs.length .top=.str ((x::xs).getLast (by simp)):=by
     rw[←zAA (f:=AV.str),aJ AV.str (by simp),zCi];simp
    have hlt:xs.length<xs.length+1:=zAT _
    have hsm:((x::xs).getLast (by simp)).length≤80:=uB (rV hn _ (List.getLast_mem _))
    obtain⟨s,hse⟩:∃s,(x::xs).getLast (by simp)=s:=⟨_,rfl⟩
    rw[hse]at hgd hsm
    simp only[hse]
    repeat' first|(refine gS ?_;simp only[go_sem,r0,r1,r2,r3,r4,hnl,qs,aC,d1,hw,hd,hgd,hlt])|refine gA ?_|(refine gD (fun h=>?_) (fun h=>?_)<;>try exact aA h)|fail
    refine aV (zZ hb hs (o:=⟨lT,1,id,2,s,[]⟩) ⟨by simp only;omega,by simp⟩ hl) (cO) ?_
    rintro v H' ⟨rfl,rfl⟩
    simp only[go_sem]
    repeat' first|(refine gS ?_;simp only[go_sem])|refine gA ?_|(refine gD (fun h=>?_) (fun h=>?_)<;>try exact aA h)|fail
    exact cE hb rfl rfl
 ·have hd:decide (e=0)=false:=eT he
  simp only[zAb he]
  repeat' first|(refine gS ?_;simp only[go_sem,r0,r1,r2,r3,r4,hnl,qs,aC,d1,hd])|refine gA ?_|(refine gD (fun h=>?_) (fun h=>?_)<;>try exact aA h)|fail
  exact cE hb rfl hb.own.symm
theorem aNV{i j:Nat}{c:Cal}{d:Dsk}{G:AHeap}(hb:KB i j c d G)(hs:DS d.m)(hc:CS c)(hl:d.ops.length≤1000000):vW Tryz.prog 49 i j c (tH c d) G:=by
 refine aO Tryz.func49 ?_
 have r0:=hb.b1;have r1:=aR hb.b1 trivial;have r2:=aR hb.b2 trivial;have hne:=hb.ne;have hl1:=hb.lt1;have hl2:=hb.lt2;have r3:=hb.r3;have r4:=hb.r4;have hnl:=aC G i;simp only[dkC]at r0 r1;have qs:=lP hl1 hl2 hne rfl
 unfold tH
 by_cases h1:c.path=[47]
 ·have d1:decide (c.path=[47])=true:=zAd h1
  rw[zAc (.inl h1)]
  repeat' first|(refine gS ?_;simp only[go_sem,r0,r1,r2,r3,r4,hnl,qs,aC,d1])|refine gA ?_|(refine gD (fun h=>?_) (fun h=>?_)<;>try exact aA h)|fail
  exact cE hb rfl hb.own.symm
 have d1:decide (c.path=[47])=false:=eT h1
 by_cases h2:c.to=[47]
 ·have d2:decide (c.to=[47])=true:=zAd h2
  rw[zAc (.inr h2)]
  repeat' first|(refine gS ?_;simp only[go_sem,r0,r1,r2,r3,r4,hnl,qs,aC,d1,d2])|refine gA ?_|(refine gD (fun h=>?_) (fun h=>?_)<;>try exact aA h)|fail
  exact cE hb rfl hb.own.symm
 have d2:decide (c.to=[47])=false:=eT h2
 rw[zAb (by rintro(h|h)<;>contradiction)]
 have hat:=aH5 false d.m.log.nodes c.path (by have:=hs.nodes;omega) hc.path
 obtain⟨⟨id,e⟩,ha⟩:∃x,atN d.m.log.nodes c.path=x:=⟨_,rfl⟩
 rw[ha]at hat ⊢
 simp only[jS]at hat
 by_cases he:e=0
 ·subst he
  simp only[zAU]
  have hab:=aPl false d.m.log.nodes c.to (by have:=hs.nodes;omega) hc.to
  obtain⟨⟨dir,s,f⟩,hbv⟩:∃x,abvN d.m.log.nodes c.to=x:=⟨_,rfl⟩
  rw[hbv]at hab ⊢
  simp only[aH4]at hab
  by_cases hf:f=0
  ·subst hf
   simp only[zAU]
   have hch:=aCz false d.m.log.nodes dir s (by have:=hs.nodes;omega)
   cases hcn:childN d.m.log.nodes dir s with
   |some n=>
    simp only[hcn,jK,zBR,zBs,zBf]at hch
    simp only[zBf,zAU]
    repeat' first|(refine gS ?_;simp only[go_sem,r0,r1,r2,r3,r4,hnl,qs,aC,d1,d2])|refine gA ?_|(refine gD (fun h=>?_) (fun h=>?_)<;>try exact aA h)|fail
    exact cE hb rfl hb.own.symm
   |none=>
    simp only[hcn,jK,zB6,zBV,zBy]at hch
    rw[zAb (by simp)]
    by_cases hdi:dir=id
    ·have dd:decide (dir=id)=true:=zAd hdi
     rw[zAc (.inl hdi)]
     repeat' first|(refine gS ?_;simp only[go_sem,r0,r1,r2,r3,r4,hnl,qs,aC,d1,d2,dd])|refine gA ?_|(refine gD (fun h=>?_) (fun h=>?_)<;>try exact aA h)|fail
     exact cE hb rfl hb.own.symm
    have dd:decide (dir=id)=false:=eT hdi
    have hup:=aJW false d.m.log.nodes dir (by have:=hs.nodes;omega)
    have hct:=aDK false (eO d.m.log.nodes dir) id
    have hca:((eO d.m.log.nodes dir).any fun x=>decide (x=id))=(eO d.m.log.nodes dir).contains id:=by rw[zA8];simp
    cases hin:(eO d.m.log.nodes dir).contains id with
    |true=>
     rw[zAc (.inr rfl)]
     simp only[hca,hin]at hct
     repeat' first|(refine gS ?_;simp only[go_sem,r0,r1,r2,r3,r4,hnl,qs,aC,d1,d2,dd])|refine gA ?_|(refine gD (fun h=>?_) (fun h=>?_)<;>try exact aA h)|fail
     exact cE hb rfl hb.own.symm
    |false=>
     rw[zAb (by rintro(h|h)<;>contradiction)]
     simp only[hca,hin]at hct
     repeat' first|(refine gS ?_;simp only[go_sem,r0,r1,r2,r3,r4,hnl,qs,aC,d1,d2,dd])|refine gA ?_|(refine gD (fun h=>?_) (fun h=>?_)<;>try exact aA h)|fail
     refine aV (zZ hb hs (o:=⟨lT,1,id,dir,s,[]⟩) ⟨by have:=aB9 hbv;simp only;omega,by simp⟩ hl) (cO) ?_
     rintro v H' ⟨rfl,rfl⟩
     simp only[go_sem]
     repeat' first|(refine gS ?_;simp only[go_sem])|refine gA ?_|(refine gD (fun h=>?_) (fun h=>?_)<;>try exact aA h)|fail
     exact cE hb rfl rfl
  ·have hd:decide (f=0)=false:=eT hf
   simp only[zAb hf]
   repeat' first|(refine gS ?_;simp only[go_sem,r0,r1,r2,r3,r4,hnl,qs,aC,d1,d2,hd])|refine gA ?_|(refine gD (fun h=>?_) (fun h=>?_)<;>try exact aA h)|fail
   exact cE hb rfl hb.own.symm
 ·have hd:decide (e=0)=false:=eT he
  simp only[zAb he]
  repeat' first|(refine gS ?_;simp only[go_sem,r0,r1,r2,r3,r4,hnl,qs,aC,d1,d2,hd])|refine gA ?_|(refine gD (fun h=>?_) (fun h=>?_)<;>try exact aA h)|fail
  exact cE hb rfl hb.own.symm
end Go.Proofs.YtolbeecicikoaaaGreatDoor

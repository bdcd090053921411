/- The texts 47 of 53 beneath the rows of this seat (joined by program): the abstract machine, and what the functions answer. No condition. -/
import Derived.Test.YtolbeecicikoaaaGreatDoorWorkAX
import Derived.Test.YtolbeecicikoaaaGreatDoorWorkBS
set_option linter.unusedSimpArgs false
set_option linter.unusedVariables false
set_option linter.unusedSectionVars false
set_option maxRecDepth 100000
set_option maxHeartbeats 16000000
namespace Go.Proofs.YtolbeecicikoaaaGreatDoor
structure AddS (d0 d:Dsk) (k:Nat):Prop where
 ds:DS d.m
 ents:d.m.log.entries.length≤200
 nodes:d.m.log.nodes.length≤400+401 * k
 ops:d.ops.length≤d0.ops.length+k
theorem aIr{d0 d:Dsk}{k:Nat}(h:AddS d0 d k)(hk:k<200){o:Opn}(ho:OpS o):AddS d0 (nW d o).2 (k+1):=by
 obtain⟨l1,l2,l3⟩:=oX d.m.log o
 have l4:=l3 h.ents
 have h1:=h.nodes
 have h2:=h.ops
 have h3:=h.ents
 unfold nW
 split
 ·refine⟨⟨by simp only;omega,by simp only;omega,fun e he=>aDC d.m.log o OpS h.ds.ops ho e he,h.ds.snaps,h.ds.watches,h.ds.snap,h.ds.evs⟩,by simp only;omega,by simp only;omega,by simp only[zAe,zAm,zAE];omega⟩
 ·exact⟨h.ds,h3,by simp only;omega,by simp only;omega⟩
theorem aIs{b:Txt}{l:List Opn}(h:readO b=some l):l.length≤b.length:=by
 have key:∀(n:Nat) (b:Txt) (l:List Opn),lN n b=some l→l.length≤n:=by
  intro n
  induction n with
  |zero=>
   intro b l h
   unfold lN at h
   split at h
   ·cases h;simp
   ·cases h
  |succ n ih=>
   intro b l h
   unfold lN at h
   split at h
   ·cases h;simp
   ·simp only[zBm]at h
    obtain⟨⟨o,r⟩, -,h2⟩:=h
    simp only[zAR]at h2
    obtain⟨t,h3,rfl⟩:=h2
    have:=ih r t h3
    rw[zAm];omega
 exact key _ _ _ h
theorem aLw(f:Opn)(k:Nat)(o:Opn)(G:AHeap)(hk:hget G k=.cells 0 (opA o).cells):bD Tryz.prog 114 [opA f,.ref k 0 0] G (.bool (decide (f.at_=o.at_))):=by
 refine fO Tryz.func114 ?_
 have hk1:=aR hk trivial
 simp only[opA,AV.cells]at hk hk1
 repeat' first|(refine gS ?_;simp only[go_sem,opA,hk,hk1])|refine gA ?_|(refine gD (fun h=>?_) (fun h=>?_)<;>try exact aA h)|fail
 exact dY (.of (by rw[aAv]))
theorem aOh(l:List Opn)(o:Opn)(i v lc n k:Nat)(hn:n=l.length)(hlc:n≤lc)(hl:n≤1073741824)(H:AHeap)(hh:hget H i=.cells v (flA opA l))(hk:hget H k=.cells 0 (opA o).cells):
  bD Tryz.prog 116 [.osl 7 i v 0 n lc,.func (.func 114) [] [.ref k 0 0]] H (.bool (l.any fun f=>decide (f.at_=o.at_))):=by
 refine fO Tryz.func116 ?_
 have hx:=aNp l (fun f=>decide (f.at_=o.at_)) i v lc n hn hlc hl (fn:=.func 114) (fs:=[]) (cs:=[.ref k 0 0]) H hh (fun x=>Or.inl ⟨(cO),aLw x k o H hk⟩)
 repeat' first|((first|refine aY (hx) (cO) ?_|refine aZ (hx) (cO) ?_|refine bA (fun _=>hx) (cO) ?_|refine gS ?_);simp only[go_sem])|refine gA ?_|(refine gD (fun h=>?_) (fun h=>?_)<;>try exact aA h)|fail
 exact bL (.of (by rw[oV]))
theorem aLx{i j:Nat}{c:Cal}{d:Dsk}{G:AHeap}(hb:KB i j c d G)(hs:DS d.m)(hc:CS c)(hl:d.ops.length≤1000)(hN:d.m.log.entries.length≤200∧d.m.log.nodes.length≤400):vW Tryz.prog 57 i j c (lW c d) G:=by
 refine aO Tryz.func57 ?_
 have r0:=hb.b1;have r1:=aR hb.b1 trivial;have r2:=aR hb.b2 trivial;have hne:=hb.ne;have hl1:=hb.lt1;have hl2:=hb.lt2;have r3:=hb.r3;have r4:=hb.r4;have hnl:=aC G i;simp only[dkC]at r0 r1;have qs:=lP hl1 hl2 hne rfl
 unfold lW
 have hrd:=aKU c.data (by have:=hc.data;omega)
 unfold aC1 at hrd
 cases hr:readO c.data with
 |none=>
  simp only[hr]at hrd
  repeat' first|(refine gS ?_;simp only[go_sem,r0,r1,r2,r3,r4,hnl,qs,aC])|refine gA ?_|(refine gD (fun h=>?_) (fun h=>?_)<;>try exact aA h)|fail
  exact cE hb rfl hb.own.symm
 |some l=>
  simp only[hr]at hrd ⊢
  obtain⟨z,hz⟩:∃z,z=(if(200:Int)<(d.m.log.entries.length:Int)+((freshN d.m.log [] l).length:Int)then(193,d)else
   if(iK d (freshN d.m.log [] l)).1=0 then
    (0,{(iK d (freshN d.m.log [] l)).2 with a:={(iK d (freshN d.m.log [] l)).2.a with n:=(freshN d.m.log [] l).length},m:={(iK d (freshN d.m.log [] l)).2.m with seen:=l.foldl (fun n o=>bY n o.at_) d.m.seen}})
   else iK d (freshN d.m.log [] l)):=⟨_,rfl⟩
  rw[←hz]
  have hlb:l.length≤1048576:=zA2 (aIs hr) hc.data
  have hlo:∀o∈l,OpS o:=fun o ho=>aCS (vT hr o ho)
  repeat' first|(refine gS ?_;simp only[go_sem,r0,r1,r2,r3,r4,hnl,qs,aC])|refine gA ?_|(refine gD (fun h=>?_) (fun h=>?_)<;>try exact aA h)|fail
  refine gI 6 7 rfl ?_
  obtain⟨fr,hfr⟩:∃fr,fr=freshN d.m.log [] l:=⟨_,rfl⟩
  obtain⟨sn,hsn⟩:∃sn,sn=l.foldl (fun n o=>bY n o.at_) d.m.seen:=⟨_,rfl⟩
  rw[←hfr,←hsn]at hz
  refine dB (ι:=AHeap) (fun M=>[(0,.ref i 0 0),(5,.int .i64 sn),(6,.osl 7 G.length (fr.length+1) 0 fr.length fr.length)]) (fun M=>G++(.cells (fr.length+1) (flA opA fr)::M)) (fun _=>fr.length≤l.length) ?_ fun M hfl=>?_
  ·refine aH (ι:=Nat×Int×List Opn×AHeap) (fun s=>[(0,.ref i 0 0),(5,.int .i64 s.2.1),(6,.osl 7 G.length (s.2.2.1.length+1) 0 s.2.2.1.length s.2.2.1.length),(29,.sl false (l.map opA)),(30,.int .i64 l.length),(31,.int .i64 s.1)])
    (fun s=>G++(.cells (s.2.2.1.length+1) (flA opA s.2.2.1)::s.2.2.2)) (fun s=>s.1≤l.length∧s.2.2.1.length≤s.1∧fr=freshN d.m.log s.2.2.1 (l.drop s.1)∧sn=(l.drop s.1).foldl (fun n o=>bY n o.at_) s.2.1) (fun s=>l.length-s.1) (0,d.m.seen,[],[]) ⟨zAn _,zAh _,hfr,hsn⟩ ?_ rfl ?_
   ·simp[go_sem]
   rintro⟨k,s,acc,M⟩ ⟨hk,hak,hf1,hf2⟩
   simp only at hk hak hf1 hf2 ⊢
   obtain⟨G2,hG⟩:∃G2,G++(.cells (acc.length+1) (flA opA acc)::M)=G2:=⟨_,rfl⟩
   rw[hG]
   have g0:hget G2 G.length=.cells (acc.length+1) (flA opA acc):=by rw[←hG];simp only[go_sem]
   have g1:=aR g0 trivial
   have g2:=eE g0 trivial
   have gs:∀X,aB G2 G.length X=G++(X::M):=fun X=>by rw[←hG];simp only[go_sem]
   have hb2:KB i j c d G2:=hG▸hb.app _
   have p0:=hb2.b1
   have p1:=aR hb2.b1 trivial
   simp only[dkC]at p0 p1
   by_cases hlt:k<l.length
   ·have hdr:=zAk hlt
    rw[hdr,freshN]at hf1
    rw[hdr,zAZ]at hf2
    have hgd:=aJ opA hlt
    obtain⟨o,ho⟩:∃o,o=l[k]:=⟨_,rfl⟩
    rw[←ho]at hf1 hf2 hgd
    simp only[opA]at hgd
    have hli:decide ((k:Int)<(l.length:Int))=true:=dT
    have hse:=aGv s o.at_ true
    have hha:=aPc false false d.m.log o.at_
    simp only[qT,stA]at hha
    have hw:=aK hlt (by omega)
    have hfl:=bQ (enc:=opA) (s:=7) (fun _=>rfl) acc
    have hop:=aOh acc o G.length (acc.length+1) acc.length acc.length G2.length rfl (zAh _) (by omega) (G2++[.cells 0 [.int .i64 o.at_.c,.int .i64 o.at_.r,.int .i64 o.kind,.int .i64 o.node,.int .i64 o.parent,.str o.name,.str o.data]]) (g1 _) (jO _ _)
    have hq1:(∀e,e=AV.agg [.int .i64 o.at_.c,.int .i64 o.at_.r,.int .i64 o.kind,.int .i64 o.node,.int .i64 o.parent,.str o.name,.str o.data]→e.cells.length=7)=True:=zAI (fun e he=>by rw[he];rfl)
    have hl8:((acc.length+1) * 72≤140737488355328)=True:=zAI (by omega)
    cases hA:fA d.m.log.entries o.at_ with
    |true=>
     rw[hA]at hha hf1
     repeat' first|(refine gS ?_;simp only[go_sem,p0,p1,g0,g1,g2,hgd,hli,hlt])|refine gA ?_|(refine gD (fun h=>?_) (fun h=>?_)<;>try exact aA h)|fail
     exact⟨(k+1,bY s o.at_,acc,M++[.cells 0 (opA o).cells]),⟨hlt,by simp only;omega,by simpa using hf1,hf2⟩,by simp only;omega,⟨rfl,rfl,zAp _ hw⟩,by show G2++[.cells 0 (opA o).cells]=_;rw[←hG];simp⟩
    |false=>
     rw[hA]at hha hf1
     cases hB:acc.any (fun f=>decide (f.at_=o.at_))with
     |true=>
      rw[hB]at hop hf1
      repeat' first|((first|refine aY (hop) (cO) ?_|refine aZ (hop) (cO) ?_|refine bA (fun _=>hop) (cO) ?_|refine gS ?_);simp only[go_sem,p0,p1,g0,g1,g2,hgd,hli,hlt])|refine gA ?_|(refine gD (fun h=>?_) (fun h=>?_)<;>try exact aA h)|fail
      exact⟨(k+1,bY s o.at_,acc,M++[.cells 0 (opA o).cells]),⟨hlt,by simp only;omega,by simpa using hf1,hf2⟩,by simp only;omega,⟨rfl,rfl,zAp _ hw⟩,by show G2++[.cells 0 (opA o).cells]=_;rw[←hG];simp⟩
     |false=>
      rw[hB]at hop hf1
      repeat' first|((first|refine aY (hop) (cO) ?_|refine aZ (hop) (cO) ?_|refine bA (fun _=>hop) (cO) ?_|refine gS ?_);simp only[go_sem,p0,p1,g0,g1,g2,hgd,hli,hlt,hq1,hl8,hfl])|refine gA ?_|(refine gD (fun h=>?_) (fun h=>?_)<;>try exact aA h)|fail
      refine⟨(k+1,bY s o.at_,acc++[o],M++[.cells 0 (opA o).cells]),⟨hlt,by simp only[zAe,zAm,zAE];omega,by simpa using hf1,hf2⟩,by simp only;omega,⟨rfl,?_,zAp _ hw⟩,?_⟩
      ·simp
      ·rw[gs]
       simp[fC,fD,vO,opA,AV.cells]
   ·have hke:k=l.length:=by omega
    have hli:decide ((k:Int)<(l.length:Int))=false:=dF
    repeat' first|(refine gS ?_;simp only[go_sem,hli])|refine gA ?_|(refine gD (fun h=>?_) (fun h=>?_)<;>try exact aA h)|fail
    have hfe:acc=fr:=by rw[hf1,hke,zA7];rfl
    have hse:s=sn:=by rw[hf2,hke,zA7];rfl
    rw[←hfe,←hse]
    exact⟨M,by omega,⟨rfl,rfl⟩,hG.symm⟩
  refine wQ [6] (fr.map opA) (v:=fr.length+1) (lc:=fr.length) (i:=G.length) (s:=7) (cs:=flA opA fr) (by intro t ht;simp only[zAx]at ht;subst ht;rw[zAj];simp only[go_sem]) (by simp only[go_sem]) (by omega) rfl (fun e he=>by(obtain⟨x, -,rfl⟩:=zAi.1 he;rfl)) ?_
  simp only[go_sem,zAA,zBx]
  obtain⟨M1,hM1⟩:∃M1:AHeap,M1=.gone::M:=⟨_,rfl⟩
  rw[←hM1]
  have hE:=hN.1
  have hwA:IntKind.i64.wrap ((d.m.log.entries.length:Int)+(fr.length:Int))=(d.m.log.entries.length:Int)+(fr.length:Int):=wI
  by_cases h200:(200:Int)<(d.m.log.entries.length:Int)+(fr.length:Int)
  ·have h2:decide ((200:Int)<(d.m.log.entries.length:Int)+(fr.length:Int))=true:=zAd h200
   rw[zAc h200]at hz
   subst hz
   repeat' first|(refine gS ?_;simp only[go_sem,r0,r1,r2,r3,r4,hnl,qs,aC,hwA,h2])|refine gA ?_|(refine gD (fun h=>?_) (fun h=>?_)<;>try exact aA h)|fail
   exact lX hb rfl hb.own.symm
  have h2:decide ((200:Int)<(d.m.log.entries.length:Int)+(fr.length:Int))=false:=eT h200
  rw[zAb h200]at hz
  have hfo:∀o∈fr,OpS o:=fun o ho=>by
   rw[hfr]at ho
   rcases pG _ _ _ o ho with h|h
   ·cases h
   ·exact hlo o h
  repeat' first|(refine gS ?_;simp only[go_sem,r0,r1,r2,r3,r4,hnl,qs,aC,hwA,h2])|refine gA ?_|(refine gD (fun h=>?_) (fun h=>?_)<;>try exact aA h)|fail
  refine dB (ι:=Dsk×AHeap) (fun _=>[(0,.ref i 0 0),(5,.int .i64 sn),(6,.sl false (fr.map opA))]) (fun s=>oS G i j c s.1++s.2) (fun s=>iK d fr=(0,s.1)) ?_ fun⟨dk,M2⟩ hdk=>?_
  ·refine aH (ι:=Nat×Dsk×AHeap) (fun s=>[(0,.ref i 0 0),(5,.int .i64 sn),(6,.sl false (fr.map opA)),(72,.sl false (fr.map opA)),(73,.int .i64 fr.length),(74,.int .i64 s.1)]) (fun s=>oS G i j c s.2.1++s.2.2)
    (fun s=>s.1≤fr.length∧iK d fr=iK s.2.1 (fr.drop s.1)∧AddS d s.2.1 s.1) (fun s=>fr.length-s.1) (0,d,M1) ⟨zAn _,rfl,⟨hs,hN.1,by have:=hN.2;simp only;omega,zAh _⟩⟩ ?_ (by rw[hb.own]) ?_
   ·simp[go_sem]
   rintro⟨k,dk,M2⟩ ⟨hk,hak,hdk⟩
   simp only at hk hak hdk ⊢
   obtain⟨G3,hG3⟩:∃G3,oS G i j c dk++M2=G3:=⟨_,rfl⟩
   have hb3:KB i j c dk G3:=hG3▸(hb.put dk).app M2
   have htw:∀d2,oS G3 i j c d2=oS G i j c d2++M2:=fun d2=>by rw[←hG3,(hb.put dk).happ,hb.twice]
   rw[hG3]
   by_cases hlt:k<fr.length
   ·have hdr:=zAk hlt
    rw[hdr,iK]at hak
    have hgd:=aJ opA hlt
    have hom:=hfo _ (zAF hlt)
    obtain⟨o,ho⟩:∃o,o=fr[k]:=⟨_,rfl⟩
    rw[←ho]at hak hgd hom
    simp only[opA]at hgd
    have hli:decide ((k:Int)<(fr.length:Int))=true:=dT
    have hw:=aK hlt (by omega)
    have hops:=hdk.ops
    repeat' first|(refine gS ?_;simp only[go_sem,hgd,hli,hlt])|refine gA ?_|(refine gD (fun h=>?_) (fun h=>?_)<;>try exact aA h)|fail
    refine aV (aKP (hb3.app _) hdk.ds (o:=o) hom (by omega)) (cO) ?_
    rintro v H' ⟨rfl,rfl⟩
    rw[hb3.happ,htw]
    have hnx:=aIr hdk (by omega) hom
    obtain⟨⟨x,d1⟩,hr2⟩:∃r,nW dk o=r:=⟨_,rfl⟩
    rw[hr2]at hak hnx ⊢
    simp only[go_sem]at hak hnx ⊢
    by_cases hx:x=0
    ·subst hx
     rw[zAc rfl]at hak
     repeat' first|(refine gS ?_;simp only[go_sem])|refine gA ?_|(refine gD (fun h=>?_) (fun h=>?_)<;>try exact aA h)|fail
     exact⟨(k+1,d1,M2++[.cells 0 (opA o).cells]),⟨hlt,hak,hnx⟩,by simp only;omega,zAp _ hw,by simp[opA,AV.cells]⟩
    ·have hd:decide (x=0)=false:=eT hx
     rw[zAb hx]at hak
     rw[hak,zAb hx]at hz
     subst hz
     repeat' first|(refine gS ?_;simp only[go_sem,hd])|refine gA ?_|(refine gD (fun h=>?_) (fun h=>?_)<;>try exact aA h)|fail
     exact lX hb rfl rfl
   ·have hke:k=fr.length:=by omega
    have hli:decide ((k:Int)<(fr.length:Int))=false:=dF
    repeat' first|(refine gS ?_;simp only[go_sem,hli])|refine gA ?_|(refine gD (fun h=>?_) (fun h=>?_)<;>try exact aA h)|fail
    rw[hke,zA7,iK]at hak
    exact⟨(dk,M2),hak,hG3.symm⟩
  simp only at hdk
  rw[hdk]at hz
  simp only[zAU]at hz
  have hnl0:=vV G i j c dk
  obtain⟨G1,hG1⟩:∃G1,oS G i j c dk=G1:=⟨_,rfl⟩
  have hb1:KB i j c dk G1:=hG1▸hb.put dk
  have hGl:G1.length=G.length:=by rw[←hG1,vV]
  have htw:∀d2,oS G1 i j c d2=oS G i j c d2:=fun d2=>by rw[←hG1,hb.twice]
  simp only
  rw[hG1]
  have r0:=hb1.b1;have r1:=aR hb1.b1 trivial;have r2:=aR hb1.b2 trivial;have hne:=hb1.ne;have hl1:=hb1.lt1;have hl2:=hb1.lt2;have r3:=hb1.r3;have r4:=hb1.r4;have hnl:=hGl;simp only[dkC]at r0 r1;have qs:=lP hl1 hl2 hne hGl
  subst hz
  repeat' first|(refine gS ?_;simp only[go_sem,r0,r1,r2,r3,r4,hnl,qs,aC])|refine gA ?_|(refine gD (fun h=>?_) (fun h=>?_)<;>try exact aA h)|fail
  refine lX hb rfl ?_
  rw[←htw]
  exact hb1.one (d':={dk with a:={dk.a with n:=fr.length},m:={dk.m with seen:=sn}}) rfl
end Go.Proofs.YtolbeecicikoaaaGreatDoor

/- The texts 46 of 51 beneath the rows of this seat (joined by program): the abstract machine, and what the functions answer. No condition. -/
import Derived.Test.YthhdnjiodklmmaaGreatDoorWorkBE
import Derived.Test.YthhdnjiodklmmaaGreatDoorWorkBS
set_option linter.unusedSimpArgs false
set_option linter.unusedVariables false
set_option linter.unusedSectionVars false
/- What is done at the desk of operations of others. No condition but what is known of a replica. -/
namespace Go.Gw
open Go Go.Aw Go.Proofs.YthhdnjiodklmmaaGreatDoor
structure AddS (d0 d:Dsk) (k:Nat):Prop where
 ds:DS d.m
 ents:d.m.log.entries.length≤200
 nodes:d.m.log.nodes.length≤400+401 * k
 ops:d.ops.length≤d0.ops.length+k
set_option maxRecDepth 20000 in
theorem aHO{d0 d:Dsk}{k:Nat}(h:AddS d0 d k)(hk:k<200){o:Opn}(ho:OpS o):AddS d0 (mU d o).2 (k+1):=by
 obtain⟨l1,l2,l3⟩:=qE d.m.log o
 have l4:=l3 h.ents
 have h1:=h.nodes
 have h2:=h.ops
 have h3:=h.ents
 unfold mU
 split
 ·refine⟨⟨by simp only;omega,by simp only;omega,fun e he=>aDh d.m.log o OpS h.ds.ops ho e he,h.ds.snaps,h.ds.watches,h.ds.snap,h.ds.evs⟩,by simp only;omega,by simp only;omega,by simp only[List.length_append,List.length_cons,List.length_nil];omega⟩
 ·exact⟨h.ds,h3,by simp only;omega,by simp only;omega⟩
theorem aHP{b:Txt}{l:List Opn}(h:readO b=some l):l.length≤b.length:=by
 have key:∀(n:Nat) (b:Txt) (l:List Opn),nF n b=some l→l.length≤n:=by
  intro n
  induction n with
  |zero=>
   intro b l h
   unfold nF at h
   split at h
   ·cases h;simp
   ·cases h
  |succ n ih=>
   intro b l h
   unfold nF at h
   split at h
   ·cases h;simp
   ·simp only[Option.bind_eq_some_iff]at h
    obtain⟨⟨o,r⟩, -,h2⟩:=h
    simp only[Option.map_eq_some_iff]at h2
    obtain⟨t,h3,rfl⟩:=h2
    have:=ih r t h3
    rw[List.length_cons];omega
 exact key _ _ _ h
end Go.Gw
namespace Go.Proofs.YthhdnjiodklmmaaGreatDoor
open Go Go.Aw Go.Gw
set_option linter.unusedSimpArgs false
set_option linter.unusedVariables false
set_option maxRecDepth 20000
set_option maxHeartbeats 4000000
theorem aKw(f:Opn)(k:Nat)(o:Opn)(G:AHeap)(hk:hget G k=.cells 0 (opA o).cells):cJ Tryz.prog 140 [opA f,.ref k 0 0] G (.bool (decide (f.at_=o.at_))):=by
 refine aL Tryz.func140 rfl (Nat.le_of_ble_eq_true rfl) ?_
 have hk1:=aT hk trivial
 simp only[opA,AV.cells]at hk hk1
 repeat' first|(refine gS ?_;simp only[go_sem,opA,hk,hk1])|refine gA ?_|(refine gD (fun h=>?_) (fun h=>?_)<;>try exact aA h)|fail
 exact done (by simp only[go_sem]) (.of (by rw[aIK]))
theorem aM7(l:List Opn)(o:Opn)(i v lc n k:Nat)(hn:n=l.length)(hlc:n≤lc)(hl:n≤1073741824)(H:AHeap)(hh:hget H i=.cells v (flA opA l))(hk:hget H k=.cells 0 (opA o).cells):
  cJ Tryz.prog 142 [.osl 7 i v 0 n lc,.func (.func 140) [] [.ref k 0 0]] H (.bool (l.any fun f=>decide (f.at_=o.at_))):=by
 refine aL Tryz.func142 rfl (Nat.le_of_ble_eq_true rfl) ?_
 have hx:=aMn l (fun f=>decide (f.at_=o.at_)) i v lc n hn hlc hl (fn:=.func 140) (fs:=[]) (cs:=[.ref k 0 0]) H hh (fun x=>Or.inl ⟨aEh,aKw x k o H hk⟩)
 repeat' first|((first|refine aV (hx) sO ?_|refine aW (hx) sO ?_|refine aX (fun _=>hx) sO ?_|refine gS ?_);simp only[go_sem])|refine gA ?_|(refine gD (fun h=>?_) (fun h=>?_)<;>try exact aA h)|fail
 exact aY (by simp only[go_sem]) (.of (by rw[nY]))
theorem aKx{i j:Nat}{c:Cal}{d:Dsk}{G:AHeap}(hb:KB i j c d G)(hs:DS d.m)(hc:CS c)(hl:d.ops.length≤1000)(hN:d.m.log.entries.length≤200∧d.m.log.nodes.length≤400):vH Tryz.prog 78 i j c (tM c d) G:=by
 refine bJ Tryz.func78 rfl (Nat.le_of_ble_eq_true rfl) ?_
 have r0:=hb.b1;have r1:=aT hb.b1 trivial;have r2:=aT hb.b2 trivial;have hne:=hb.ne;have hl1:=hb.lt1;have hl2:=hb.lt2;have r3:=hb.r3;have r4:=hb.r4;have hnl:=aC G i;simp only[dkC]at r0 r1;have qs:=lE hl1 hl2 hne rfl
 unfold tM
 have hrd:=aKh c.data (by have:=hc.data;omega)
 unfold aFh at hrd
 cases hr:readO c.data with
 |none=>
  simp only[hr]at hrd
  have ct0:=ct hrd aAb;repeat' first|((first|refine gK ?_|refine gS ?_);simp only[go_sem,r0,r1,r2,r3,r4,hnl,qs,aC])|refine gA ?_|(refine gD (fun h=>?_) (fun h=>?_)<;>try exact aA h)|fail
  exact cN hb rfl hb.own.symm
 |some l=>
  simp only[hr]at hrd ⊢
  obtain⟨z,hz⟩:∃z,z=(if(200:Int)<(d.m.log.entries.length:Int)+((freshN d.m.log [] l).length:Int)then(193,d)else
   if(iN d (freshN d.m.log [] l)).1=0 then
    (0,{(iN d (freshN d.m.log [] l)).2 with a:={(iN d (freshN d.m.log [] l)).2.a with n:=(freshN d.m.log [] l).length},m:={(iN d (freshN d.m.log [] l)).2.m with seen:=l.foldl (fun n o=>eV n o.at_) d.m.seen}})
   else iN d (freshN d.m.log [] l)):=⟨_,rfl⟩
  rw[←hz]
  have hlb:l.length≤1048576:=Nat.le_trans (aHP hr) hc.data
  have hlo:∀o∈l,OpS o:=fun o ho=>aAO (qT hr o ho)
  have ct0:=ct hrd aAb;repeat' first|((first|refine gK ?_|refine gS ?_);simp only[go_sem,r0,r1,r2,r3,r4,hnl,qs,aC])|refine gA ?_|(refine gD (fun h=>?_) (fun h=>?_)<;>try exact aA h)|fail
  refine oP 6 7 rfl ?_
  obtain⟨fr,hfr⟩:∃fr,fr=freshN d.m.log [] l:=⟨_,rfl⟩
  obtain⟨sn,hsn⟩:∃sn,sn=l.foldl (fun n o=>eV n o.at_) d.m.seen:=⟨_,rfl⟩
  rw[←hfr,←hsn]at hz
  refine iC (ι:=AHeap) (fun M=>[(0,.ref i 0 0),(5,.int .i64 sn),(6,.osl 7 G.length (fr.length+1) 0 fr.length fr.length)]) (fun M=>G++(.cells (fr.length+1) (flA opA fr)::M)) (fun _=>fr.length≤l.length) ?_ fun M hfl=>?_
  ·refine aP (ι:=Nat×Int×List Opn×AHeap) (fun s=>[(0,.ref i 0 0),(5,.int .i64 s.2.1),(6,.osl 7 G.length (s.2.2.1.length+1) 0 s.2.2.1.length s.2.2.1.length),(29,.sl false (l.map opA)),(30,.int .i64 l.length),(31,.int .i64 s.1)])
    (fun s=>G++(.cells (s.2.2.1.length+1) (flA opA s.2.2.1)::s.2.2.2)) (fun s=>s.1≤l.length∧s.2.2.1.length≤s.1∧fr=freshN d.m.log s.2.2.1 (l.drop s.1)∧sn=(l.drop s.1).foldl (fun n o=>eV n o.at_) s.2.1) (fun s=>l.length-s.1) (0,d.m.seen,[],[]) ⟨Nat.zero_le _,Nat.le_refl _,hfr,hsn⟩ ?_ rfl ?_
   ·simp[go_sem]
   rintro⟨k,s,acc,M⟩ ⟨hk,hak,hf1,hf2⟩
   simp only at hk hak hf1 hf2 ⊢
   obtain⟨G2,hG⟩:∃G2,G++(.cells (acc.length+1) (flA opA acc)::M)=G2:=⟨_,rfl⟩
   rw[hG]
   have g0:hget G2 G.length=.cells (acc.length+1) (flA opA acc):=by rw[←hG];simp only[go_sem]
   have g1:=aT g0 trivial
   have g2:=fM g0 trivial
   have gs:∀X,aD G2 G.length X=G++(X::M):=fun X=>by rw[←hG];simp only[go_sem]
   have hb2:KB i j c d G2:=hG▸hb.app _
   have p0:=hb2.b1
   have p1:=aT hb2.b1 trivial
   simp only[dkC]at p0 p1
   by_cases hlt:k<l.length
   ·have hdr:=List.drop_eq_getElem_cons hlt
    rw[hdr,freshN]at hf1
    rw[hdr,List.foldl_cons]at hf2
    have hgd:=bA opA hlt
    obtain⟨o,ho⟩:∃o,o=l[k]:=⟨_,rfl⟩
    rw[←ho]at hf1 hf2 hgd
    simp only[opA]at hgd
    have hli:decide ((k:Int)<(l.length:Int))=true:=decide_eq_true (by omega)
    have hse:=aFZ s o.at_ true
    have hha:=aNT false false d.m.log o.at_
    simp only[zW,stA]at hha
    have hw:=bD hlt (by omega)
    have hfl:=eR (enc:=opA) (s:=7) (fun _=>rfl) acc
    have hop:=aM7 acc o G.length (acc.length+1) acc.length acc.length G2.length rfl (Nat.le_refl _) (by omega) (G2++[.cells 0 [.int .i64 o.at_.c,.int .i64 o.at_.r,.int .i64 o.kind,.int .i64 o.node,.int .i64 o.parent,.str o.name,.str o.data]]) (g1 _) (jL _ _)
    have hq1:(∀e,e=AV.agg [.int .i64 o.at_.c,.int .i64 o.at_.r,.int .i64 o.kind,.int .i64 o.node,.int .i64 o.parent,.str o.name,.str o.data]→e.cells.length=7)=True:=eq_true (fun e he=>by rw[he];rfl)
    have hl8:((acc.length+1) * 72≤140737488355328)=True:=eq_true (by omega)
    cases hA:jY d.m.log.entries o.at_ with
    |true=>
     rw[hA]at hha hf1
     have ct0:=ct hse nW;have ct1:=ct hha kO;repeat' first|((first|refine gK ?_|refine gS ?_);simp only[go_sem,p0,p1,g0,g1,g2,hgd,hli,hlt])|refine gA ?_|(refine gD (fun h=>?_) (fun h=>?_)<;>try exact aA h)|fail
     exact⟨(k+1,eV s o.at_,acc,M++[.cells 0 (opA o).cells]),⟨hlt,by simp only;omega,by simpa using hf1,hf2⟩,by simp only;omega,⟨rfl,rfl,congrArg _ hw⟩,by show G2++[.cells 0 (opA o).cells]=_;rw[←hG];simp⟩
    |false=>
     rw[hA]at hha hf1
     cases hB:acc.any (fun f=>decide (f.at_=o.at_))with
     |true=>
      rw[hB]at hop hf1
      have ct0:=ct hse nW;have ct1:=ct hha kO;repeat' first|((first|refine gK ?_|refine aV (hop) kP ?_|refine aW (hop) kP ?_|refine aX (fun _=>hop) kP ?_|refine gS ?_);simp only[go_sem,p0,p1,g0,g1,g2,hgd,hli,hlt])|refine gA ?_|(refine gD (fun h=>?_) (fun h=>?_)<;>try exact aA h)|fail
      exact⟨(k+1,eV s o.at_,acc,M++[.cells 0 (opA o).cells]),⟨hlt,by simp only;omega,by simpa using hf1,hf2⟩,by simp only;omega,⟨rfl,rfl,congrArg _ hw⟩,by show G2++[.cells 0 (opA o).cells]=_;rw[←hG];simp⟩
     |false=>
      rw[hB]at hop hf1
      have ct0:=ct hse nW;have ct1:=ct hha kO;repeat' first|((first|refine gK ?_|refine aV (hop) kP ?_|refine aW (hop) kP ?_|refine aX (fun _=>hop) kP ?_|refine gS ?_);simp only[go_sem,p0,p1,g0,g1,g2,hgd,hli,hlt,hq1,hl8,hfl])|refine gA ?_|(refine gD (fun h=>?_) (fun h=>?_)<;>try exact aA h)|fail
      refine⟨(k+1,eV s o.at_,acc++[o],M++[.cells 0 (opA o).cells]),⟨hlt,by simp only[List.length_append,List.length_cons,List.length_nil];omega,by simpa using hf1,hf2⟩,by simp only;omega,⟨rfl,?_,congrArg _ hw⟩,?_⟩
      ·simp
      ·rw[gs]
       simp[fN,gW,uY,opA,AV.cells]
   ·have hke:k=l.length:=by omega
    have hli:decide ((k:Int)<(l.length:Int))=false:=decide_eq_false (by omega)
    repeat' first|(refine gS ?_;simp only[go_sem,hli])|refine gA ?_|(refine gD (fun h=>?_) (fun h=>?_)<;>try exact aA h)|fail
    have hfe:acc=fr:=by rw[hf1,hke,List.drop_length];rfl
    have hse:s=sn:=by rw[hf2,hke,List.drop_length];rfl
    rw[←hfe,←hse]
    exact⟨M,by omega,⟨rfl,rfl⟩,hG.symm⟩
  refine vV [6] (fr.map opA) (v:=fr.length+1) (lc:=fr.length) (i:=G.length) (s:=7) (cs:=flA opA fr) (by intro t ht;simp only[List.mem_singleton]at ht;subst ht;rw[List.length_map];simp only[go_sem]) (by simp only[go_sem]) (by omega) rfl (fun e he=>by(obtain⟨x, -,rfl⟩:=List.mem_map.1 he;rfl)) ?_
  simp only[go_sem,List.map_cons,List.map_nil]
  obtain⟨M1,hM1⟩:∃M1:AHeap,M1=.gone::M:=⟨_,rfl⟩
  rw[←hM1]
  have hE:=hN.1
  have hwA:IntKind.i64.wrap ((d.m.log.entries.length:Int)+(fr.length:Int))=(d.m.log.entries.length:Int)+(fr.length:Int):=wrap_i64 (by omega) (by omega)
  by_cases h200:(200:Int)<(d.m.log.entries.length:Int)+(fr.length:Int)
  ·have h2:decide ((200:Int)<(d.m.log.entries.length:Int)+(fr.length:Int))=true:=decide_eq_true h200
   rw[if_pos h200]at hz
   subst hz
   repeat' first|(refine gS ?_;simp only[go_sem,r0,r1,r2,r3,r4,hnl,qs,aC,hwA,h2])|refine gA ?_|(refine gD (fun h=>?_) (fun h=>?_)<;>try exact aA h)|fail
   exact lH hb rfl hb.own.symm
  have h2:decide ((200:Int)<(d.m.log.entries.length:Int)+(fr.length:Int))=false:=decide_eq_false h200
  rw[if_neg h200]at hz
  have hfo:∀o∈fr,OpS o:=fun o ho=>by
   rw[hfr]at ho
   rcases oJ _ _ _ o ho with h|h
   ·cases h
   ·exact hlo o h
  repeat' first|(refine gS ?_;simp only[go_sem,r0,r1,r2,r3,r4,hnl,qs,aC,hwA,h2])|refine gA ?_|(refine gD (fun h=>?_) (fun h=>?_)<;>try exact aA h)|fail
  refine iC (ι:=Dsk×AHeap) (fun _=>[(0,.ref i 0 0),(5,.int .i64 sn),(6,.sl false (fr.map opA))]) (fun s=>nS G i j c s.1++s.2) (fun s=>iN d fr=(0,s.1)) ?_ fun⟨dk,M2⟩ hdk=>?_
  ·refine aP (ι:=Nat×Dsk×AHeap) (fun s=>[(0,.ref i 0 0),(5,.int .i64 sn),(6,.sl false (fr.map opA)),(72,.sl false (fr.map opA)),(73,.int .i64 fr.length),(74,.int .i64 s.1)]) (fun s=>nS G i j c s.2.1++s.2.2)
    (fun s=>s.1≤fr.length∧iN d fr=iN s.2.1 (fr.drop s.1)∧AddS d s.2.1 s.1) (fun s=>fr.length-s.1) (0,d,M1) ⟨Nat.zero_le _,rfl,⟨hs,hN.1,by have:=hN.2;simp only;omega,Nat.le_refl _⟩⟩ ?_ (by rw[hb.own]) ?_
   ·simp[go_sem]
   rintro⟨k,dk,M2⟩ ⟨hk,hak,hdk⟩
   simp only at hk hak hdk ⊢
   obtain⟨G3,hG3⟩:∃G3,nS G i j c dk++M2=G3:=⟨_,rfl⟩
   have hb3:KB i j c dk G3:=hG3▸(hb.put dk).app M2
   have htw:∀d2,nS G3 i j c d2=nS G i j c d2++M2:=fun d2=>by rw[←hG3,(hb.put dk).happ,hb.twice]
   rw[hG3]
   by_cases hlt:k<fr.length
   ·have hdr:=List.drop_eq_getElem_cons hlt
    rw[hdr,iN]at hak
    have hgd:=bA opA hlt
    have hom:=hfo _ (List.getElem_mem hlt)
    obtain⟨o,ho⟩:∃o,o=fr[k]:=⟨_,rfl⟩
    rw[←ho]at hak hgd hom
    simp only[opA]at hgd
    have hli:decide ((k:Int)<(fr.length:Int))=true:=decide_eq_true (by omega)
    have hw:=bD hlt (by omega)
    have hops:=hdk.ops
    repeat' first|(refine gS ?_;simp only[go_sem,hgd,hli,hlt])|refine gA ?_|(refine gD (fun h=>?_) (fun h=>?_)<;>try exact aA h)|fail
    refine bE (aKc (hb3.app _) hdk.ds (o:=o) hom (by omega)) aAc ?_
    rintro v H' ⟨rfl,rfl⟩
    rw[hb3.happ,htw]
    have hnx:=aHO hdk (by omega) hom
    obtain⟨⟨x,d1⟩,hr2⟩:∃r,mU dk o=r:=⟨_,rfl⟩
    rw[hr2]at hak hnx ⊢
    simp only[go_sem]at hak hnx ⊢
    by_cases hx:x=0
    ·subst hx
     rw[if_pos rfl]at hak
     repeat' first|(refine gS ?_;simp only[go_sem])|refine gA ?_|(refine gD (fun h=>?_) (fun h=>?_)<;>try exact aA h)|fail
     exact⟨(k+1,d1,M2++[.cells 0 (opA o).cells]),⟨hlt,hak,hnx⟩,by simp only;omega,congrArg _ hw,by simp[opA,AV.cells]⟩
    ·have hd:decide (x=0)=false:=decide_eq_false hx
     rw[if_neg hx]at hak
     rw[hak,if_neg hx]at hz
     subst hz
     repeat' first|(refine gS ?_;simp only[go_sem,hd])|refine gA ?_|(refine gD (fun h=>?_) (fun h=>?_)<;>try exact aA h)|fail
     exact lH hb rfl rfl
   ·have hke:k=fr.length:=by omega
    have hli:decide ((k:Int)<(fr.length:Int))=false:=decide_eq_false (by omega)
    repeat' first|(refine gS ?_;simp only[go_sem,hli])|refine gA ?_|(refine gD (fun h=>?_) (fun h=>?_)<;>try exact aA h)|fail
    rw[hke,List.drop_length,iN]at hak
    exact⟨(dk,M2),hak,hG3.symm⟩
  simp only at hdk
  rw[hdk]at hz
  simp only[if_true]at hz
  have hnl0:=vG G i j c dk
  obtain⟨G1,hG1⟩:∃G1,nS G i j c dk=G1:=⟨_,rfl⟩
  have hb1:KB i j c dk G1:=hG1▸hb.put dk
  have hGl:G1.length=G.length:=by rw[←hG1,vG]
  have htw:∀d2,nS G1 i j c d2=nS G i j c d2:=fun d2=>by rw[←hG1,hb.twice]
  simp only
  rw[hG1]
  have r0:=hb1.b1;have r1:=aT hb1.b1 trivial;have r2:=aT hb1.b2 trivial;have hne:=hb1.ne;have hl1:=hb1.lt1;have hl2:=hb1.lt2;have r3:=hb1.r3;have r4:=hb1.r4;have hnl:=hGl;simp only[dkC]at r0 r1;have qs:=lE hl1 hl2 hne hGl
  subst hz
  repeat' first|(refine gS ?_;simp only[go_sem,r0,r1,r2,r3,r4,hnl,qs,aC])|refine gA ?_|(refine gD (fun h=>?_) (fun h=>?_)<;>try exact aA h)|fail
  refine lH hb rfl ?_
  rw[←htw]
  exact hb1.one (d':={dk with a:={dk.a with n:=fr.length},m:={dk.m with seen:=sn}}) rfl
end Go.Proofs.YthhdnjiodklmmaaGreatDoor

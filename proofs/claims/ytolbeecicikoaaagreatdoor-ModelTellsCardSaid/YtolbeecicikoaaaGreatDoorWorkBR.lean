/- The texts 44 of 53 beneath the rows of this seat (joined by program): the abstract machine, and what the functions answer. No condition. -/
import Derived.Test.YtolbeecicikoaaaGreatDoorWorkAU
import Derived.Test.YtolbeecicikoaaaGreatDoorWorkBC
import Derived.Test.YtolbeecicikoaaaGreatDoorWorkBD
import Derived.Test.YtolbeecicikoaaaGreatDoorWorkBP
set_option linter.unusedSimpArgs false
set_option linter.unusedVariables false
set_option linter.unusedSectionVars false
set_option maxRecDepth 100000
set_option maxHeartbeats 16000000
namespace Go.Proofs.YtolbeecicikoaaaGreatDoor
def aBr(m:Mdl)(l:List Opn):Mdl:=tellM m {m with log:=eQ m.log l,seen:=l.foldl (fun n o=>bY n o.at_) m.seen}
def opV(m:Mdl)(r:Int×Dsk):AV:=if r.1=0 then .tup [bC false false false false (tellM m r.2.m),.sl false (r.2.ops.map opA),.int .i64 0]else .tup [bC false false false false m,.sl false [],.int .i64 r.1]
def mdO(m:Mdl)(o:Opn)(f:Bool):Opn:={o with at_:=⟨m.seen+1,m.rep⟩,node:=if o.node=0 then idI (m.seen+1) m.rep f else o.node}
theorem aOc{m:Mdl}{o:Opn}(hn:(nextD m).2=0)(ha:o.at_=⟨m.seen+1,m.rep⟩):aBr m [o]=tellM m (putM m o):=by
 obtain⟨-,n2,n3,n4,n5, -⟩:=iW hn
 have hk:zM (m.seen+1) m.rep=true:=by rw[oU];omega
 unfold aBr putM
 congr 2
 simp only[zAZ,List.foldl_nil,bY,ha,hk,zAU]
 omega
theorem aCd(g:Lg)(l:List Opn)(o:Opn):eQ g (l++[o])=dU (eQ g l) o:=by rw[aJN];rfl
theorem aBg(n:Int)(l:List Opn)(o:Opn):(l++[o]).foldl (fun n o=>bY n o.at_) n=bY (l.foldl (fun n o=>bY n o.at_) n) o.at_:=by rw[zBL];rfl
theorem yD{g:Lg}(h:Good g):aQ4 g.entries:=fun e he=>aCS (h.ok e.op (zAi.2 ⟨e,he,rfl⟩))
theorem aLs{g:Lg}(h:Good g):NoS g.nodes:=by
 rw[kZ h]
 exact aB1 _ (fun n hn=>by cases hn) h.ok
theorem aLt(a b:List Itm):(mA a b).length≤a.length+b.length+b.length:=by
 unfold mA
 simp only[zAe,zAj]
 have h1:=zAQ (pA b) a.reverse
 have h2:=zAQ (pA a) b
 have h3:=zAQ (rN a) b
 rw[zA9]at h1
 omega
theorem aEl{l:List Nd}(hc:chk l=true)(hw:Wfr l){dir:Int}(hd:dirI dir=true):(cB l dir).length≤l.length:=by
 rw[←sV hw hd,xQ,zAc hc];exact qF hc hw _ _ _ hd
def mM:List Pl:=[.pure 0,.pure 0,.free,.free,.pure 0,.pure 0,.pure 0,.free,.free,.free,.pure 0,.eff [false,false,false,false,false,false]]
def mO:List Pl:=[.pure 0,.pure 0,.free,.free,.pure 0,.pure 0,.pure 0,.free,.pure 0,.pure 0,.eff [false,false,false,false,false,false,false]]
def mP:List Pl:=[.pure 0,.pure 0,.pure 0,.pure 0,.pure 0,.pure 0,.pure 0,.pure 0,.pure 0,.pure 0,.pure 0,.pure 0,.pure 0,.eff [false,false,false,false,false,false,false,false,false,false,false,false,false]]
def kK:List Pl:=[.pure 0,.pure 0,.free,.pure 0,.pure 0,.free,.eff [true,false,false,false],.free,.free]
attribute [go_sem] mM mO mP kK
theorem yE(n:Int)(s:Stm)(f:Bool)(H:AHeap):bD Tryz.prog 40 [.int .i64 n,.sl f [.agg [.int .i64 s.c,.int .i64 s.r]]] H (.int .i64 (bY n s)):=by
 refine fO Tryz.func40 ?_
 obtain⟨a,b⟩:=s
 have hw:IntKind.i64.wrap (0+1)=1:=rfl
 repeat' first|(refine gS ?_;simp only[go_sem])|refine gA ?_|(refine gD (fun h=>?_) (fun h=>?_)<;>try exact aA h)|fail
 refine mS 2 ?_
 unfold mE
 repeat' first|(refine gS ?_;simp only[go_sem])|refine gA ?_|(refine gD (fun h=>?_) (fun h=>?_)<;>try exact aA h)|fail
 have hc:=uV a b
 cases hk:zM a b with
 |false=>
  rw[hk]at hc
  repeat' first|(refine gS ?_;simp only[go_sem,hw])|refine gA ?_|(refine gD (fun h=>?_) (fun h=>?_)<;>try exact aA h)|fail
  exact bL (.of (by unfold bY;rw[hk];rfl))
 |true=>
  rw[hk]at hc
  have e:bY n ⟨a,b⟩=max n a:=by unfold bY;rw[hk];rfl
  rw[e]
  by_cases h:n<a
  ·have hd:decide (n<a)=true:=zAd h
   repeat' first|(refine gS ?_;simp only[go_sem,hw,hd])|refine gA ?_|(refine gD (fun h=>?_) (fun h=>?_)<;>try exact aA h)|fail
   exact bL (.of (by rw[show max n a=a by omega]))
  ·have hd:decide (n<a)=false:=eT h
   repeat' first|(refine gS ?_;simp only[go_sem,hw,hd])|refine gA ?_|(refine gD (fun h=>?_) (fun h=>?_)<;>try exact aA h)|fail
   exact bL (.of (by rw[show max n a=n by omega]))
def aFJ(a b:Int):AV:=if kX a b=true then .tup [.agg [.int .i64 (a+1),.int .i64 b],.int .i64 0]else .tup [.agg [.int .i64 0,.int .i64 0],.int .i64 20]
theorem aIn(a b:Int)(H:AHeap):bD Tryz.prog 127 [.int .i64 a,.int .i64 b] H (aFJ a b):=by
 refine fO Tryz.func127 ?_
 unfold aFJ
 cases hn:kX a b with
 |true=>
  have h:=nK.1 hn
  have hw:IntKind.i64.wrap (a+1)=a+1:=wI
  have d1:decide (a<0)=false:=dF
  have d2:decide (1048575<a)=false:=dF
  have d3:decide (b<0)=false:=dF
  have d4:decide (63<b)=false:=dF
  repeat' first|(refine gS ?_;simp only[go_sem,hw,d1,d2,d3,d4])|refine gA ?_|(refine gD (fun h=>?_) (fun h=>?_)<;>try exact aA h)|fail
  exact dY (.refl _)
 |false=>
  have h:¬_:=fun q=>by rw[nK.2 q]at hn;cases hn
  have hd:(decide (a<0)||decide (1048575<a)||decide (b<0)||decide (63<b))=true:=by simp;omega
  repeat' first|(refine gS ?_;simp only[go_sem,hd])|refine gA ?_|(refine gD (fun h=>?_) (fun h=>?_)<;>try exact aA h)|fail
  all_goals first
   |exact dY (.refl _)
   |(exfalso;simp_all;done)
   |(exfalso;simp_all;omega)
theorem aOd(a b:Int)(d:Bool)(H:AHeap):bD Tryz.prog 128 [.agg [.int .i64 a,.int .i64 b],.bool d] H (.int .i64 (idI a b d)):=by
 refine fO Tryz.func128 ?_
 have hc:=uV a b
 unfold idI
 cases hk:zM a b with
 |false=>
  rw[hk]at hc
  repeat' first|(refine gS ?_;simp only[go_sem])|refine gA ?_|(refine gD (fun h=>?_) (fun h=>?_)<;>try exact aA h)|fail
  exact dY (.refl _)
 |true=>
  rw[hk]at hc
  have h:=oU.1 hk
  have w1:IntKind.i64.wrap (128 * a)=128 * a:=wI
  have w2:IntKind.i64.wrap (2 * b)=2 * b:=wI
  have w3:IntKind.i64.wrap (128 * a+2 * b)=128 * a+2 * b:=wI
  have w4:IntKind.i64.wrap (128 * a+2 * b+1)=128 * a+2 * b+1:=wI
  cases d with
  |true=>
   repeat' first|(refine gS ?_;simp only[go_sem,w1,w2,w3,w4])|refine gA ?_|(refine gD (fun h=>?_) (fun h=>?_)<;>try exact aA h)|fail
   exact dY (.refl _)
  |false=>
   repeat' first|(refine gS ?_;simp only[go_sem,w1,w2,w3,w4])|refine gA ?_|(refine gD (fun h=>?_) (fun h=>?_)<;>try exact aA h)|fail
   exact dY (.of (by simp))
theorem aEm(f1 f2 f3 f4 b:Bool)(m:Mdl)(h:MI m)(l:List Opn)(ho:∀o∈l,opOk o=true)(hl:m.log.entries.length+l.length≤200)(H:AHeap):
  bD Tryz.prog 75 [bC f1 f2 f3 f4 m,.sl b (l.map opA)] H (bC false false false false (aBr m l)):=by
 refine fO Tryz.func75 ?_
 have hl200:l.length≤200:=by omega
 simp only[bC,dN]
 repeat' first|((first|refine mx [5] mM ?_|refine mx [6] mO ?_|refine mx [12] mP ?_|refine gS ?_);simp only[go_sem])|refine gA ?_|(refine gD (fun h=>?_) (fun h=>?_)<;>try exact aA h)|fail
 refine dB (ι:=Bool×Bool) (fun x=>[(1,.sl b (l.map opA)),(2,.ref H.length 0 0),(4,.ref (H.length+1) 0 0),(5,.ref (H.length+2) 0 0)])
  (fun x=>H++[.cells 0 (bC f1 f2 f3 f4 m).cells,.cells 0 (bC true true true true sL).cells,.cells 0 (bC x.1 x.2 f3 f4 {m with log:=eQ m.log l,seen:=l.foldl (fun n o=>bY n o.at_) m.seen}).cells]) (fun _=>True) ?_ ?_
 ·refine aH (ι:=Nat×Bool×Bool) (fun x=>[(1,.sl b (l.map opA)),(2,.ref H.length 0 0),(4,.ref (H.length+1) 0 0),(5,.ref (H.length+2) 0 0),(6,.int .i64 x.1)])
   (fun x=>H++[.cells 0 (bC f1 f2 f3 f4 m).cells,.cells 0 (bC true true true true sL).cells,.cells 0 (bC x.2.1 x.2.2 f3 f4 {m with log:=eQ m.log (l.take x.1),seen:=(l.take x.1).foldl (fun n o=>bY n o.at_) m.seen}).cells])
   (fun x=>x.1≤l.length) (fun x=>l.length-x.1) (0,f1,f2) (zAn _) ?_ rfl ?_
  ·simp[go_sem]
  rintro⟨i,g1,g2⟩ hi
  simp only at hi ⊢
  by_cases hlt:i<l.length
  ·have hp:=aJ opA hlt
   have hli:decide ((i:Int)<(l.length:Int))=true:=dT
   have htk:l.take (i+1)=l.take i++[l[i]]:=zAa hlt
   have hg:=vF h.good (l.take i)
   have hle:=aCV (l.take i) m.log
   rw[zAy]at hle
   have hradd:=aLa g1 g2 (eQ m.log (l.take i)) l[i] (aCS (ho _ (zAF hlt))) (yD hg) (by omega)
   rw[aDI hg]at hradd
   have hseen:=yE ((l.take i).foldl (fun n o=>bY n o.at_) m.seen) l[i].at_ true
   have e1:=aCd m.log (l.take i) l[i]
   have e2:=aBg m.seen (l.take i) l[i]
   rw[←htk]at e1 e2
   rw[←e1]at hradd
   rw[←e2]at hseen
   generalize(g1&&tK (eQ m.log (l.take i)) l[i])=g3 at hradd
   generalize(g2&&tK (eQ m.log (l.take i)) l[i])=g4 at hradd
   generalize oQ (eQ m.log (l.take i)) l[i]=e at hradd
   obtain⟨o,hoe⟩:∃o,o=l[i]:=⟨_,rfl⟩
   rw[←hoe]at hp hradd hseen
   simp only[qT,opA]at hp hradd
   repeat' first|((first|refine mx [5] mM ?_|refine mx [6] mO ?_|refine mx [12] mP ?_|refine gS ?_);simp only[go_sem,hp,hli,bC,dN])|refine gA ?_|(refine gD (fun h=>?_) (fun h=>?_)<;>try exact aA h)|fail
   exact⟨(i+1,g3,g4),hlt,by simp only;omega,zAp _ (aK hlt (by omega)),rfl⟩
  ·have hie:i=l.length:=by omega
   have hli:decide ((i:Int)<(l.length:Int))=false:=dF
   repeat' first|(refine gS ?_;simp only[go_sem,hli])|refine gA ?_|(refine gD (fun h=>?_) (fun h=>?_)<;>try exact aA h)|fail
   exact⟨(g1,g2),by rw[hie,zAq]⟩
 rintro⟨g1,g2⟩ _
 simp only
 have hgood:=vF h.good l
 have hle:=aCV l m.log
 obtain⟨g,hg⟩:∃g,g=eQ m.log l:=⟨_,rfl⟩
 have hns:=aKO hgood (by omega)
 have hnos:=aLs hgood
 rw[←hg]at hgood hle hns hnos
 obtain⟨sn,hsn⟩:∃n,n=l.foldl (fun n o=>bY n o.at_) m.seen:=⟨_,rfl⟩
 have hres:aBr m l=⟨g,sn,m.rep,m.snaps,m.watches.map (pC m.log.nodes g.nodes),m.next⟩:=by rw[hg,hsn];rfl
 rw[hres,←hg,←hsn]
 have hnm:=h.nodes
 have hmnos:=h.nos
 have hww:=h.watch
 have hwl:=h.watches
 clear hg hsn hres ho hgood
 simp only[bC,dN]
 repeat' first|(refine gS ?_;simp only[go_sem])|refine gA ?_|(refine gD (fun h=>?_) (fun h=>?_)<;>try exact aA h)|fail
 refine nE (H.length+2) 5 4 (by simp only[go_sem];rfl) rfl ?_
 simp only[go_sem]
 obtain⟨W,hW⟩:∃W,W=m.watches.map (pC m.log.nodes g.nodes):=⟨_,rfl⟩
 have hWl:W.length=m.watches.length:=by rw[hW,zAj]
 rw[←hW]
 refine aH (ι:=Nat×AHeap) (fun x=>[(2,.ref H.length 0 0),(4,.ref (H.length+1) 0 0),(5,.ref (H.length+2) 0 0),(7,.int .i64 x.1)])
  (fun x=>H++(.cells 0 (bC f1 f2 f3 f4 m).cells::.cells 0 (bC true true true true sL).cells::.cells 0 [.sl g1 (g.entries.map dM),.sl g2 (g.nodes.map ndA),.int .i64 sn,.int .i64 m.rep,.sl f3 (m.snaps.map dP),.osl 4 (H.length+3) (x.1+1) 0 x.1 x.1,.int .i64 m.next]::.cells (x.1+1) (flA cD (W.take x.1))::x.2))
  (fun x=>x.1≤m.watches.length) (fun x=>m.watches.length-x.1) (0,[]) (zAn _) ?_ rfl ?_
 ·simp[go_sem]
 rintro⟨i,J⟩ hi
 simp only at hi ⊢
 obtain⟨D,hD⟩:∃D,D=W.take i:=⟨_,rfl⟩
 have hDl:D.length=i:=by rw[hD,zAy];omega
 rw[←hD]
 obtain⟨G,hG⟩:∃G,H++(.cells 0 (bC f1 f2 f3 f4 m).cells::.cells 0 (bC true true true true sL).cells::.cells 0 [.sl g1 (g.entries.map dM),.sl g2 (g.nodes.map ndA),.int .i64 sn,.int .i64 m.rep,.sl f3 (m.snaps.map dP),.osl 4 (H.length+3) (i+1) 0 i i,.int .i64 m.next]::.cells (i+1) (flA cD D)::J)=G:=⟨_,rfl⟩
 rw[hG]
 have hGL:G.length=H.length+(J.length+4):=by rw[←hG];simp
 have g0:hget G H.length=.cells 0 (bC f1 f2 f3 f4 m).cells:=by rw[←hG];simp only[go_sem]
 have g4:hget G (H.length+2)=.cells 0 [.sl g1 (g.entries.map dM),.sl g2 (g.nodes.map ndA),.int .i64 sn,.int .i64 m.rep,.sl f3 (m.snaps.map dP),.osl 4 (H.length+3) (i+1) 0 i i,.int .i64 m.next]:=by rw[←hG];simp only[go_sem]
 have g5:hget G (H.length+3)=.cells (i+1) (flA cD D):=by rw[←hG];simp only[go_sem]
 have gz:hget G (H.length+1)=.cells 0 (bC true true true true sL).cells:=by rw[←hG];simp only[go_sem]
 by_cases hlt:i<m.watches.length
 ·have hli:decide ((i:Int)<(m.watches.length:Int))=true:=dT
  have hp:=aJ cD hlt
  obtain⟨w,hw⟩:∃w,w=m.watches[i]:=⟨_,rfl⟩
  obtain⟨v1,v2,v3⟩:=hww m.watches[i] (zAF hlt)
  rw[←hw]at hp v1 v2 v3
  have htk:W.take (i+1)=D++[pC m.log.nodes g.nodes w]:=by
   have hl2:i<W.length:=by omega
   rw[zAa hl2,←hD]
   congr 2
   rw[hw];simp only[hW,List.getElem_map]
  have hk1:SmN m.log.nodes:=fun n hn=>by have:=(hnm.nd n hn).name;omega
  have hk2:SmN g.nodes:=fun n hn=>by have:=(hns.nd n hn).name;omega
  have hl1:=hnm.len
  have hl2:=hns.len
  have hof:=aRL f2 g2 m.log.nodes g.nodes w.dir hnm.frs.chk hnm.frs.wf hns.frs.chk hns.frs.wf v1 (by omega) (by omega) hk1 hk2 hmnos hnos
  have hel:=aLt (cB m.log.nodes w.dir) (cB g.nodes w.dir)
  have hi1:=aEl hnm.frs.chk hnm.frs.wf v1
  have hi2:=aEl hns.frs.chk hns.frs.wf v1
  have hput:=aLq false false w.over w.evs (mA (cB m.log.nodes w.dir) (cB g.nodes w.dir)) (by omega) v3 v2
  obtain⟨E,hE⟩:∃E,mA (cB m.log.nodes w.dir) (cB g.nodes w.dir)=E:=⟨_,rfl⟩
  unfold pC at htk
  rw[hE]at hof hput htk
  obtain⟨⟨Q,o2⟩,hQ⟩:∃Q,lM w.evs w.over E=Q:=⟨_,rfl⟩
  rw[hQ]at hput htk
  simp only at hput htk
  clear hel hE hQ v3 v2 v1 hww hW hD hw
  have gA1:=aR g0 trivial
  have g6:=aR g4 trivial
  have g7:=eE g4 trivial
  have g8:=aR g5 trivial
  have g9:=eE g5 trivial
  simp only[cD]at hp
  repeat' first|((first|refine mx [5] mM ?_|refine mx [6] mO ?_|refine mx [12] mP ?_|refine gS ?_);simp only[go_sem,hp,hli,bC,dN,g0,gA1,g4,g5,g6,g7,g8,g9])|refine gA ?_|(refine gD (fun h=>?_) (fun h=>?_)<;>try exact aA h)|fail
  refine⟨⟨by rw[bQ (enc:=cD) (s:=4) (fun _=>rfl),hDl],fun e he=>by(rw[he];rfl),by omega⟩,?_⟩
  have h3:H.length+3<G.length:=by omega
  have q1:∀C c,hget (aB G (H.length+3) C++[c]) (H.length+2)=.cells 0 [.sl g1 (g.entries.map dM),.sl g2 (g.nodes.map ndA),.int .i64 sn,.int .i64 m.rep,.sl f3 (m.snaps.map dP),.osl 4 (H.length+3) (i+1) 0 i i,.int .i64 m.next]:=fun C c=>aG ((aP (by omega) _).trans g4) trivial _
  have q2:∀C c X,aB (aB G (H.length+3) C++[c]) (H.length+2) X=H++(.cells 0 (bC f1 f2 f3 f4 m).cells::.cells 0 (bC true true true true sL).cells::X::C::(J++[c])):=fun C c X=>by
   rw[←hG];simp[aB,zB2]
  simp only[q1,q2]
  repeat' first|(refine gS ?_;simp only[go_sem])|refine gA ?_|(refine gD (fun h=>?_) (fun h=>?_)<;>try exact aA h)|fail
  exact⟨(i+1,J++[.cells 0 [.int .i64 w.n,.int .i64 w.dir,.sl false (Q.map cY),.bool o2]]),hlt,by simp only;omega,zAp _ (aK hlt (by omega)),by simp only[htk];simp[flA,cD,bC,dN,AV.cells]⟩
 ·have hie:i=m.watches.length:=by omega
  have hli:decide ((i:Int)<(m.watches.length:Int))=false:=dF
  have h1:H.length+1<G.length:=by omega
  have q1:∀C,hget (aB G (H.length+1) (.cells 0 C)) (H.length+1)=.cells 0 C:=fun C=>bU h1 _
  have hDW:W=D:=by rw[hD,hie,←hWl,zAq]
  have hDm:D.length=m.watches.length:=by omega
  have q2:∀X,aB G (H.length+1) X=H++(.cells 0 (bC f1 f2 f3 f4 m).cells::X::.cells 0 [.sl g1 (g.entries.map dM),.sl g2 (g.nodes.map ndA),.int .i64 sn,.int .i64 m.rep,.sl f3 (m.snaps.map dP),.osl 4 (H.length+3) (i+1) 0 i i,.int .i64 m.next]::.cells (i+1) (flA cD D)::J):=fun X=>by
   rw[←hG];simp[aB,zB2]
  repeat' first|(refine gS ?_;simp only[go_sem,hli,g0,g4,g5,gz,bC,dN,q1])|refine gA ?_|(refine gD (fun h=>?_) (fun h=>?_)<;>try exact aA h)|fail
  rw[hDW]
  refine⟨_,_,q2 _,?_,rfl⟩
  have hx:hget (aB G (H.length+1) (.cells 0 [.sl g1 (g.entries.map dM),.sl g2 (g.nodes.map ndA),.int .i64 sn,.int .i64 m.rep,.sl f3 (m.snaps.map dP),.osl 4 (H.length+3) (i+1) 0 i i,.int .i64 m.next])) (H.length+3)=.cells (i+1) (flA cD D):=(aP (by omega) _).trans g5
  exact .agg _ _ rfl (aS (Sim.frz (.sl _ _) (by simp only[go_sem])) (aS (Sim.frz (.sl _ _) (by simp only[go_sem])) (aS (.cl _ (.int _ _)) (aS (.cl _ (.int _ _)) (aS (Sim.frz (.sl _ _) (by simp only[go_sem])) (aS (iC (es:=D.map cD) (rest:=[]) (by omega) hx (zAg _).symm (by rw[zAj,hDl]) (fun e he=>by(obtain⟨x,_,rfl⟩:=zAi.1 he;rfl)) (fun e he=>by(obtain⟨x,_,rfl⟩:=zAi.1 he;simp only[go_sem]))) (aS (.cl _ (.int _ _)) cI)))))))
theorem dX(f1 f2 f3 f4 g:Bool)(m:Mdl)(l:List Opn)(e:Int):Sim (.tup [bC f1 f2 f3 f4 m,.sl g (l.map opA),.int .i64 e]) (.tup [bC false false false false m,.sl false (l.map opA),.int .i64 e]):=
 .tup _ _ rfl (aD (mL _ _ _ _ _) (aD (.sl _ _) (aD (.refl _) bJ)))
def mC(m:Mdl)(o:Opn):AV:=if(nextD m).2=0 then .tup [bC false false false false (aBr m [o]),.sl false [opA o],.int .i64 0]else .tup [bC false false false false m,.sl false [],.int .i64 (nextD m).2]
theorem sX(f1 f2 f3 f4:Bool)(m:Mdl)(h:MI m)(o:Opn)(f:Bool)(ho:(nextD m).2=0→opOk (mdO m o f)=true)(H:AHeap):
  bD Tryz.prog 65 [bC f1 f2 f3 f4 m,opA o,.bool f] H (mC m (mdO m o f)):=by
 refine fO Tryz.func65 ?_
 have hnx:=aIn m.seen m.rep
 unfold aFJ at hnx
 unfold mC
 cases hk:kX m.seen m.rep with
 |false=>
  have e:nextD m=(lT,20):=by unfold nextD;rw[zAc hk]
  rw[hk,zAb (by decide)]at hnx
  rw[e,zAb (by decide)]
  simp only[bC,dN,opA]
  repeat' first|((first|refine mx [9] kK ?_|refine gS ?_);simp only[go_sem])|refine gA ?_|(refine gD (fun h=>?_) (fun h=>?_)<;>try exact aA h)|fail
  exact dY (dX _ _ _ _ _ m [] 20)
 |true=>
  rw[hk,zAc rfl]at hnx
  by_cases h2:(200:Int)≤(m.log.entries.length:Int)
  ·have e:nextD m=(lT,193):=by unfold nextD;rw[zAb (by rw[hk];decide),zAc h2]
   rw[e,zAb (by decide)]
   have d2:decide ((200:Int)≤(m.log.entries.length:Int))=true:=zAd h2
   simp only[bC,dN,opA]
   repeat' first|((first|refine mx [9] kK ?_|refine gS ?_);simp only[go_sem,d2])|refine gA ?_|(refine gD (fun h=>?_) (fun h=>?_)<;>try exact aA h)|fail
   exact dY (dX _ _ _ _ _ m [] 193)
  ·have e:nextD m=(⟨m.seen+1,m.rep⟩,0):=by unfold nextD;rw[zAb (by rw[hk];decide),zAb h2]
   have hok:=ho (by rw[e])
   rw[e,zAc rfl]
   have d2:decide ((200:Int)≤(m.log.entries.length:Int))=false:=eT h2
   have hadd:=aEm f1 f2 f3 f4 true m h [mdO m o f] (by simpa using hok) (by simp;omega)
   by_cases h0:o.node=0
   ·have d0:decide (o.node=0)=true:=zAd h0
    have hid:=aOd (m.seen+1) m.rep f
    have em:mdO m o f=⟨⟨m.seen+1,m.rep⟩,o.kind,idI (m.seen+1) m.rep f,o.parent,o.name,o.data⟩:=by unfold mdO;rw[zAc h0]
    rw[em]at hadd ⊢
    simp only[bC,dN,opA,zAA,zBx]at hadd ⊢
    repeat' first|((first|refine mx [9] kK ?_|refine gS ?_);simp only[go_sem,d2,d0])|refine gA ?_|(refine gD (fun h=>?_) (fun h=>?_)<;>try exact aA h)|fail
    exact dY (.tup _ _ rfl (aD (.refl _) (aD (.sl _ _) (aD (.refl _) bJ))))
   ·have d0:decide (o.node=0)=false:=eT h0
    have em:mdO m o f=⟨⟨m.seen+1,m.rep⟩,o.kind,o.node,o.parent,o.name,o.data⟩:=by unfold mdO;rw[zAb h0]
    rw[em]at hadd ⊢
    simp only[bC,dN,opA,zAA,zBx]at hadd ⊢
    repeat' first|((first|refine mx [9] kK ?_|refine gS ?_);simp only[go_sem,d2,d0])|refine gA ?_|(refine gD (fun h=>?_) (fun h=>?_)<;>try exact aA h)|fail
    exact dY (.tup _ _ rfl (aD (.refl _) (aD (.sl _ _) (aD (.refl _) bJ))))
theorem eS{m:Mdl}{e:Int}{d:Dsk}(h:e≠0):opV m (e,d)=.tup [bC false false false false m,.sl false [],.int .i64 e]:=zAb h
theorem sY{m:Mdl}(h:MI m){o:Opn}(ho:(nextD m).2=0→opOk {o with at_:=⟨m.seen+1,m.rep⟩}=true):mC m {o with at_:=⟨m.seen+1,m.rep⟩}=opV m (qV ⟨m,an0,[]⟩ o):=by
 unfold mC
 by_cases hn:(nextD m).2=0
 ·rw[zAc hn,aA1 (d:=⟨m,an0,[]⟩) h hn (ho hn),opV,zAc rfl,aOc hn rfl];rfl
 ·rw[zAb hn,zX (d:=⟨m,an0,[]⟩) hn,eS hn]
theorem aEn(f1 f2 f3 f4:Bool)(m:Mdl)(h:MI m)(c:Cal)(hp:dW c.path=true)(hs:c.path.length≤1048576)(H:AHeap):
  bD Tryz.prog 24 [bC f1 f2 f3 f4 m,fJ c] H (opV m (qO c ⟨m,an0,[]⟩)):=by
 refine fO Tryz.func24 ?_
 have hlen:=h.nodes.len
 have hdir:=aEe f2 m.log.nodes c.path hp hs (by omega)
 obtain⟨q1,q2⟩:=aEd (l:=m.log.nodes) hp
 have hroot:qO c ⟨m,an0,[]⟩=if(abvN m.log.nodes c.path).2.2=0 then
  (if(childN m.log.nodes (abvN m.log.nodes c.path).1 (abvN m.log.nodes c.path).2.1).isSome=true then(190,⟨m,an0,[]⟩)else
   if(nextD m).2=0 then qV ⟨m,an0,[]⟩ ⟨lT,1,idI (nextD m).1.c (nextD m).1.r (decide (c.kind=1)),(abvN m.log.nodes c.path).1,(abvN m.log.nodes c.path).2.1,[]⟩else((nextD m).2,⟨m,an0,[]⟩))
 else((abvN m.log.nodes c.path).2.2,⟨m,an0,[]⟩):=by
  unfold qO
  by_cases h47:c.path=[47]
  ·rw[zAc h47,h47];rfl
  ·rw[zAb h47]
 rw[hroot]
 obtain⟨⟨dir,s,e⟩,ha⟩:∃x,abvN m.log.nodes c.path=x:=⟨_,rfl⟩
 rw[ha]at q1 q2 ⊢
 simp only at q1 q2 ⊢
 by_cases h2:e=0
 ·subst h2
  rw[q2 rfl]at hdir
  simp only at hdir
  obtain⟨a1,a2,a3⟩:=aA0 h.nodes h.seen ha
  have hch:=vY f2 m.log.nodes dir s (by omega)
  cases hc:childN m.log.nodes dir s with
  |some n=>
   rw[hc]at hch
   simp only[jK]at hch
   rw[zAc rfl,zAc (show(some n).isSome=true from rfl),eS (by decide)]
   simp only[bC,dN,fJ]
   repeat' first|(refine gS ?_;simp only[go_sem])|refine gA ?_|(refine gD (fun h=>?_) (fun h=>?_)<;>try exact aA h)|fail
   exact dY (dX _ _ _ _ _ m [] 190)
  |none=>
   rw[hc]at hch
   simp only[jK]at hch
   have hok:(nextD m).2=0→opOk (bornO m c dir s)=true:=fun h3=>by
    obtain⟨n1,n2,n3,n4,n5,n6⟩:=iW h3
    obtain⟨i1,i2,i3,i4⟩:=aKy (d:=decide (c.kind=1)) (show 1≤m.seen+1 by omega) (show m.seen+1≤1048576 by omega) n4 n5
    exact sQ (by omega) (by omega) n4 n5 i1 (aD1 i2 i3) a1 (by omega) a3
   have hmk:=sX f1 f2 f3 f4 m h ⟨lT,1,0,dir,s,[]⟩ (decide (c.kind=1)) hok
   have hres:mC m (mdO m ⟨lT,1,0,dir,s,[]⟩ (decide (c.kind=1)))=opV m (if(nextD m).2=0 then qV ⟨m,an0,[]⟩ ⟨lT,1,idI (nextD m).1.c (nextD m).1.r (decide (c.kind=1)),dir,s,[]⟩else((nextD m).2,⟨m,an0,[]⟩)):=by
    by_cases hn:(nextD m).2=0
    ·rw[zAc hn,(iW hn).1]
     exact sY (o:=⟨lT,1,idI (m.seen+1) m.rep (decide (c.kind=1)),dir,s,[]⟩) h hok
    ·rw[zAb hn,mC,zAb hn,eS hn]
   rw[zAc rfl,zAb (by simp),←hres]
   generalize mdO m ⟨lT,1,0,dir,s,[]⟩ (decide (c.kind=1))=o' at *
   unfold mC at hmk ⊢
   by_cases hn:(nextD m).2=0
   ·rw[zAc hn]at hmk ⊢
    generalize aBr m [o']=m' at *
    simp only[bC,dN,fJ,opA,lT]at hdir hch hmk ⊢
    repeat' first|(refine gS ?_;simp only[go_sem])|refine gA ?_|(refine gD (fun h=>?_) (fun h=>?_)<;>try exact aA h)|fail
    exact dY (.refl _)
   ·rw[zAb hn]at hmk ⊢
    generalize(nextD m).2=e' at *
    simp only[bC,dN,fJ,opA,lT]at hdir hch hmk ⊢
    repeat' first|(refine gS ?_;simp only[go_sem])|refine gA ?_|(refine gD (fun h=>?_) (fun h=>?_)<;>try exact aA h)|fail
    exact dY (.refl _)
 ·rw[zAb h2,eS h2]
  obtain⟨⟨d1,s1,e1⟩,hr⟩:∃x,wA m.log.nodes c.path=x:=⟨_,rfl⟩
  rw[hr]at hdir q1
  simp only at hdir q1
  subst q1
  have he:decide (e1=0)=false:=eT h2
  simp only[bC,dN,fJ]
  repeat' first|(refine gS ?_;simp only[go_sem,he])|refine gA ?_|(refine gD (fun h=>?_) (fun h=>?_)<;>try exact aA h)|fail
  exact dY (dX _ _ _ _ _ m [] e1)
end Go.Proofs.YtolbeecicikoaaaGreatDoor

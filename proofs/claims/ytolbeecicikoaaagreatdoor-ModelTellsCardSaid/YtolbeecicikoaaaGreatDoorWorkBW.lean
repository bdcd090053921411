/- The texts 49 of 53 beneath the rows of this seat (joined by program): the abstract machine, and what the functions answer. No condition. -/
import Derived.Test.YtolbeecicikoaaaGreatDoorWorkAU
import Derived.Test.YtolbeecicikoaaaGreatDoorWorkBQ
import Derived.Test.YtolbeecicikoaaaGreatDoorWorkBT
set_option linter.unusedSimpArgs false
set_option linter.unusedVariables false
set_option linter.unusedSectionVars false
set_option maxRecDepth 100000
set_option maxHeartbeats 16000000
namespace Go.Proofs.YtolbeecicikoaaaGreatDoor
def wH(m:Mdl)(r:Int×Dsk):AV:=if r.1=0 then .tup [bC false false false false r.2.m,jX false false r.2.a]else .tup [bC false false false false m,jX false false (gR r.1)]
def oK(n:Int)(a:Ans)(w:Wch):Ans:=if w.n=n then{an0 with events:=w.evs}else a
theorem aFO{n:Int}:∀{l:List Wch} (a:Ans),(l.Pairwise fun x y=>x.n≠y.n)→l.foldl (oK n) a=match l.find? fun w=>decide (w.n=n)with
  |none=>a
  |some w=>{an0 with events:=w.evs}:=by
 intro l
 induction l with
 |nil=>intro a _;rfl
 |cons w l ih=>
  intro a h
  rw[zBj]at h
  rw[zAZ,ih _ h.2,zCn,oK]
  by_cases hn:w.n=n
  ·rw[zAc hn,zAd hn,zBF.2 (fun x hx=>by simpa using fun e=>h.1 x hx (by rw[hn,e]))]
  ·rw[zAb hn,eT hn]
theorem aFP{n:Int}:∀(l:List Wch) (a:Ans),(a.data=[]∧a.names=[]∧a.n=0)→((l.foldl (oK n) a).data=[]∧(l.foldl (oK n) a).names=[]∧(l.foldl (oK n) a).n=0):=by
 intro l
 induction l with
 |nil=>intro a h;exact h
 |cons w l ih=>
  intro a h
  refine ih _ ?_
  unfold oK
  split
  ·exact⟨rfl,rfl,rfl⟩
  ·exact h
def waP(n:Int)(w:Wch):AV:=.agg [.int .i64 w.n,.int .i64 w.dir,if w.n=n then .sl true []else .sl false (w.evs.map cY),.bool w.over]
def aBi(n:Int)(w:Wch):Wch:=if w.n=n then{w with evs:=[]}else w
theorem aOk{m:Mdl}{q:Int}(hu:HU m q)(c:Cal):wH m (qP c ⟨m,an0,[]⟩)=.tup [bC false false false false {m with watches:=m.watches.map (aBi c.n)},jX false false (m.watches.foldl (oK c.n) (gR 191))]:=by
 rw[aFO _ hu.1]
 unfold wH qP
 have he:=aA5 (n:=c.n) hu.1
 cases hf:m.watches.find? fun w=>decide (w.n=c.n)with
 |none=>
  have hm:m.watches.map (aBi c.n)=m.watches:=by
   conv=>rhs;rw[←List.map_id m.watches]
   refine zBM fun w hw=>?_
   have:=zBF.1 hf w hw
   simp only[zAr]at this
   rw[aBi,zAb this];rfl
  simp only[hf]
  rw[zAb (by decide),hm]
 |some w=>
  simp only[hf,zAU]
  rw[he];rfl
def dJ:List Pl:=[.free,.pure 0,.pure 0,.eff [false,true],.pure 1,.pure 1,.pure 1,.pure 1,.pure 1,.free,.free,.eff [true,true,true,true,true,true],.pure 0,.eff [false,false,false,false,false,false,false]]
def dK:List Pl:=[.pure 0,.pure 0,.pure 0,.free,.eff [true,true,false],.eff [false,false]]
def dL:List Pl:=[.free,.pure 0,.pure 0,.eff [false,true],.pure 1,.pure 1,.free,.free,.free,.eff [true,true,true],.pure 0,.eff [false,false,false,false]]
def fF:List Pl:=[.pure 0,.pure 0,.pure 0,.pure 0,.free,.pure 0,.pure 0,.free,.eff [true,true,true,true,false,true],.pure 0,.eff [false,false,false,false,false,false]]
def mQ:List Pl:=[.pure 0,.pure 0,.eff [true,false],.eff [false]]
attribute [go_sem] dJ dK dL fF mQ
theorem aUI{G:AHeap}{a:Nat}(ha:a<G.length)(c C X X':ABlk):aB (aB (aB (G++[c]) a X) G.length C) a X'=aB (G++[C]) a X':=by
 unfold aB
 rw[List.set_comm X C (show a≠G.length by omega),List.set_set]
 simp
theorem aOl{n i v k lc:Nat}{H:AHeap}(D:List Snp)(f:Bool)(x:Int)(N:List Nd)(hn:n≤i)(hh:hget H i=.cells v (flA dP D++[.int .i64 x,.sl f (N.map ndA)]))(hk:D.length+1=k):Frz n H (.osl 2 i v 0 k lc) (.sl false ((D++[(⟨x,N⟩:Snp)]).map dP)):=
 aAb hn hh (by simp;omega) (by simp[bQ (enc:=dP) (s:=2) (fun _=>rfl)];omega) (fun _=>rfl) (by rw[fC];exact aBf (mK (fun x=>by simp only[go_sem]) D) (aS (.cl _ (.int _ _)) (aS (Sim.frz (.sl _ _) (by simp only[go_sem])) cI)))
theorem aOm{n i v k lc:Nat}{H:AHeap}(D:List Wch)(x d:Int)(hn:n≤i)(hh:hget H i=.cells v (flA cD D++[.int .i64 x,.int .i64 d,.sl true [],.bool false]))(hk:D.length+1=k):Frz n H (.osl 4 i v 0 k lc) (.sl false ((D++[(⟨x,d,[],false⟩:Wch)]).map cD)):=
 aAb hn hh (by simp;omega) (by simp[bQ (enc:=cD) (s:=4) (fun _=>rfl)];omega) (fun _=>rfl) (by rw[fC];exact aBf (mK (fun x=>by simp only[go_sem]) D) (aS (.cl _ (.int _ _)) (aS (.cl _ (.int _ _)) (aS (Sim.frz (.sl true []) (by simp only[go_sem])) (aS (.cl _ (.bool _)) cI)))))
theorem aLA{n i v k lc:Nat}{H:AHeap}{cs:List AV}(D:List Snp)(hn:n≤i)(hh:hget H i=.cells v cs)(hc:cs=(D.map dP).flatMap AV.cells)(hk:D.length=k):Frz n H (.osl 2 i v 0 k lc) (.sl false (D.map dP)):=
 iC (rest:=[]) hn hh (by rw[hc,zAg]) (by rw[zAj,hk]) (fun e he=>by(obtain⟨x,_,rfl⟩:=zAi.1 he;rfl)) (fun e he=>by(obtain⟨x,_,rfl⟩:=zAi.1 he;simp only[go_sem]))
theorem aLB{n i v k lc:Nat}{H:AHeap}{cs:List AV}(D:List Wch)(hn:n≤i)(hh:hget H i=.cells v cs)(hc:cs=(D.map cD).flatMap AV.cells)(hk:D.length=k):Frz n H (.osl 4 i v 0 k lc) (.sl false (D.map cD)):=
 iC (rest:=[]) hn hh (by rw[hc,zAg]) (by rw[zAj,hk]) (fun e he=>by(obtain⟨x,_,rfl⟩:=zAi.1 he;rfl)) (fun e he=>by(obtain⟨x,_,rfl⟩:=zAi.1 he;simp only[go_sem]))
theorem yF{n:Nat}{H:AHeap}(f1 f2:Bool)(E:List Ent)(N:List Nd)(a r x:Int){s w:AV}{D:List Snp}{W:List Wch}(hs:Frz n H s (.sl false (D.map dP)))(hw:Frz n H w (.sl false (W.map cD))):
  Frz n H (.agg [.sl f1 (E.map dM),.sl f2 (N.map ndA),.int .i64 a,.int .i64 r,s,w,.int .i64 x]) (bC false false false false ⟨⟨E,N⟩,a,r,D,W,x⟩):=
 .agg _ _ rfl (aS (Sim.frz (.sl _ _) (by simp only[go_sem])) (aS (Sim.frz (.sl _ _) (by simp only[go_sem])) (aS (.cl _ (.int _ _)) (aS (.cl _ (.int _ _)) (aS hs (aS hw (aS (.cl _ (.int _ _)) cI)))))))
theorem aC9{n:Nat}{H:AHeap}(f:Bool)(D:List Snp):Frz n H (.sl f (D.map dP)) (.sl false (D.map dP)):=Sim.frz (.sl _ _) (by simp only[go_sem])
theorem aGY{n:Nat}{H:AHeap}(f:Bool)(D:List Wch):Frz n H (.sl f (D.map cD)) (.sl false (D.map cD)):=Sim.frz (.sl _ _) (by simp only[go_sem])
theorem aGZ{n:Nat}{H:AHeap}(f g:Bool)(a:Ans):Frz n H (jX f g a) (jX false false a):=Sim.frz (fV f g a) (by simp only[jX,go_sem])
theorem aIt(f1 f2 f3 f4:Bool)(m:Mdl)(h:MI m)(c:Cal)(hk:c.kind=8)(H:AHeap):
  bD Tryz.prog 29 [bC f1 f2 f3 f4 m,fJ c] H (wH m (rO ⟨m,an0,[]⟩)):=by
 refine fO Tryz.func29 ?_
 have d8:decide (c.kind=8)=true:=zAd hk
 have hsn:=h.snaps
 unfold rO wH
 by_cases h2:(8:Int)≤(m.snaps.length:Int)
 ·have d2:decide ((8:Int)≤(m.snaps.length:Int))=true:=zAd h2
  simp only[zAc h2]
  rw[zAb (by decide)]
  simp only[bC,dN,fJ]
  repeat' first|((first|refine mx [6] dJ ?_|refine mx [7,17] dK ?_|refine mx [16] dL ?_|refine gS ?_);simp only[go_sem,d8,d2])|refine gA ?_|(refine gD (fun h=>?_) (fun h=>?_)<;>try exact aA h)|fail
  exact dY (.tup _ _ rfl (aD (mL f1 f2 f3 f4 m) (aD (fV true true (gR 193)) bJ)))
 ·have d2:decide ((8:Int)≤(m.snaps.length:Int))=false:=eT h2
  simp only[zAb h2,zAU]
  simp only[bC,dN,fJ]
  repeat' first|((first|refine mx [6] dJ ?_|refine mx [7,17] dK ?_|refine mx [16] dL ?_|refine gS ?_);simp only[go_sem,d8,d2])|refine gA ?_|(refine gD (fun h=>?_) (fun h=>?_)<;>try exact aA h)|fail
  refine⟨⟨.inl trivial,fun e he=>by(obtain⟨x,_,rfl⟩:=zAi.1 he;rfl),by omega⟩,⟨(bQ (enc:=dP) (s:=2) (fun _=>rfl) m.snaps).symm,fun e he=>by(rw[he];rfl),by omega⟩,?_⟩
  repeat' first|((first|refine mx [6] dJ ?_|refine mx [7,17] dK ?_|refine mx [16] dL ?_|refine gS ?_);simp only[go_sem])|refine gA ?_|(refine gD (fun h=>?_) (fun h=>?_)<;>try exact aA h)|fail
  refine⟨_,_,rfl,?_,rfl⟩
  exact .tup _ _ rfl (aS (yF f1 f2 _ _ _ _ _ (aOl m.snaps f2 m.next m.log.nodes (by omega) (by simp only[go_sem];rfl) rfl) (aGY _ _)) (aS (aGZ true true {an0 with n:=m.next}) cI))
theorem aFQ(f1 f2 f3 f4:Bool)(m:Mdl)(h:MI m)(c:Cal)(hk:c.kind=10)(hp:dW c.path=true)(hs:c.path.length≤1048576)(H:AHeap):
  bD Tryz.prog 29 [bC f1 f2 f3 f4 m,fJ c] H (wH m (nN c ⟨m,an0,[]⟩)):=by
 refine fO Tryz.func29 ?_
 have d8:decide (c.kind=8)=false:=dF
 have hwn:=h.watches
 have hlen:=h.nodes.len
 have hat:=wB f2 m.log.nodes c.path hp hs (by omega)
 unfold nN wH
 obtain⟨⟨id,e⟩,ha⟩:∃x,atN m.log.nodes c.path=x:=⟨_,rfl⟩
 rw[ha]at hat
 simp only[ha,jS]at hat ⊢
 have hdr:=tR id
 by_cases he:e=0
 rotate_left
 ·simp only[zAb he]
  have d0:decide (e=0)=false:=eT he
  simp only[bC,dN,fJ]
  cases hd:dirI id with
  |true=>
   rw[hd]at hdr
   repeat' first|((first|refine mx [6] dJ ?_|refine mx [7,17] dK ?_|refine mx [16] dL ?_|refine gS ?_);simp only[go_sem,d8,d0])|refine gA ?_|(refine gD (fun h=>?_) (fun h=>?_)<;>try exact aA h)|fail
   exact dY (.tup _ _ rfl (aD (mL f1 f2 f3 f4 m) (aD (fV true true (gR e)) bJ)))
  |false=>
   rw[hd]at hdr
   repeat' first|((first|refine mx [6] dJ ?_|refine mx [7,17] dK ?_|refine mx [16] dL ?_|refine gS ?_);simp only[go_sem,d8,d0])|refine gA ?_|(refine gD (fun h=>?_) (fun h=>?_)<;>try exact aA h)|fail
   exact dY (.tup _ _ rfl (aD (mL f1 f2 f3 f4 m) (aD (fV true true (gR e)) bJ)))
 subst he
 simp only[zAU]
 cases hd:dirI id with
 |false=>
  rw[hd]at hdr
  simp only[bC,dN,fJ]
  repeat' first|((first|refine mx [6] dJ ?_|refine mx [7,17] dK ?_|refine mx [16] dL ?_|refine gS ?_);simp only[go_sem,d8])|refine gA ?_|(refine gD (fun h=>?_) (fun h=>?_)<;>try exact aA h)|fail
  exact dY (.tup _ _ rfl (aD (mL f1 f2 f3 f4 m) (aD (fV true true (gR 81)) bJ)))
 |true=>
  rw[hd]at hdr
  by_cases h2:(8:Int)≤(m.watches.length:Int)
  ·have d2:decide ((8:Int)≤(m.watches.length:Int))=true:=zAd h2
   simp only[zAc h2,bC,dN,fJ]
   repeat' first|((first|refine mx [6] dJ ?_|refine mx [7,17] dK ?_|refine mx [16] dL ?_|refine gS ?_);simp only[go_sem,d8,d2])|refine gA ?_|(refine gD (fun h=>?_) (fun h=>?_)<;>try exact aA h)|fail
   exact dY (.tup _ _ rfl (aD (mL f1 f2 f3 f4 m) (aD (fV true true (gR 193)) bJ)))
  ·have d2:decide ((8:Int)≤(m.watches.length:Int))=false:=eT h2
   simp only[zAb h2,bC,dN,fJ]
   repeat' first|((first|refine mx [6] dJ ?_|refine mx [7,17] dK ?_|refine mx [16] dL ?_|refine gS ?_);simp only[go_sem,d8,d2])|refine gA ?_|(refine gD (fun h=>?_) (fun h=>?_)<;>try exact aA h)|fail
   refine⟨⟨.inl trivial,fun e he=>by(obtain⟨x,_,rfl⟩:=zAi.1 he;rfl),by omega⟩,⟨(bQ (enc:=cD) (s:=4) (fun _=>rfl) m.watches).symm,fun e he=>by(rw[he];rfl),by omega⟩,?_⟩
   repeat' first|((first|refine mx [6] dJ ?_|refine mx [7,17] dK ?_|refine mx [16] dL ?_|refine gS ?_);simp only[go_sem])|refine gA ?_|(refine gD (fun h=>?_) (fun h=>?_)<;>try exact aA h)|fail
   refine⟨_,_,rfl,?_,rfl⟩
   exact .tup _ _ rfl (aS (yF f1 f2 _ _ _ _ _ (aC9 _ _) (aOm m.watches m.next id (by omega) (by simp only[go_sem];rfl) rfl)) (aS (aGZ true true {an0 with n:=m.next}) cI))
theorem aIu(f1 f2 f3 f4:Bool)(m:Mdl)(h:MI m)(c:Cal)(H:AHeap):
  bD Tryz.prog 30 [bC f1 f2 f3 f4 m,.int .i64 c.n] H (if(kI c ⟨m,an0,[]⟩).1=0 then .tup [bC false false false false (kI c ⟨m,an0,[]⟩).2.m,.int .i64 0]else .tup [bC false false false false m,.int .i64 191]):=by
 refine fO Tryz.func30 ?_
 have hsn:=h.snaps
 have hwn:=h.watches
 obtain⟨p,hpe⟩:∃p,p=fun s:Snp=> !decide (s.n=c.n):=⟨_,rfl⟩
 obtain⟨q,hqe⟩:∃q,q=fun w:Wch=> !decide (w.n=c.n):=⟨_,rfl⟩
 have hS:(m.snaps.filter p).length=m.snaps.length↔(m.snaps.any fun s=>decide (s.n=c.n))=false:=by
  rw[hpe,List.length_filter_eq_length_iff,zBK];simp
 have hW:(m.watches.filter q).length=m.watches.length↔(m.watches.any fun s=>decide (s.n=c.n))=false:=by
  rw[hqe,List.length_filter_eq_length_iff,zBK];simp
 have hres:kI c ⟨m,an0,[]⟩=if(m.snaps.filter p).length=m.snaps.length∧(m.watches.filter q).length=m.watches.length then(191,⟨m,an0,[]⟩)else(0,⟨{m with snaps:=m.snaps.filter p,watches:=m.watches.filter q},an0,[]⟩):=by
  unfold kI
  simp only
  by_cases hx:(m.snaps.any fun s=>decide (s.n=c.n))=false∧(m.watches.any fun s=>decide (s.n=c.n))=false
  ·rw[zAc (by rw[hx.1,hx.2];rfl),zAc ⟨hS.2 hx.1,hW.2 hx.2⟩]
  ·rw[zAb (fun q=>hx (by simpa only[zAl,zBc]using q)),zAb (fun q=>hx ⟨hS.1 q.1,hW.1 q.2⟩),hpe,hqe]
 rw[hres]
 clear hres hS hW
 have hpa:∀s,p s= !decide (s.n=c.n):=fun s=>by rw[hpe]
 have hqa:∀s,q s= !decide (s.n=c.n):=fun s=>by rw[hqe]
 clear hpe hqe
 simp only[bC,dN]
 repeat' first|(refine gS ?_;simp only[go_sem])|refine gA ?_|(refine gD (fun h=>?_) (fun h=>?_)<;>try exact aA h)|fail
 refine nE (H.length+2) 4 2 (by simp only[go_sem];rfl) rfl ?_
 simp only[go_sem]
 refine dB (ι:=Nat×AHeap) (fun x=>[(1,.int .i64 c.n),(2,.ref H.length 0 0),(4,.ref (H.length+1) 0 0),(6,.ref (H.length+2) 0 0)])
  (fun x=>H++(.cells 0 (bC f1 f2 f3 f4 m).cells::.cells 0 (bC true true true true sL).cells::.cells 0 [.sl f1 (m.log.entries.map dM),.sl f2 (m.log.nodes.map ndA),.int .i64 m.seen,.int .i64 m.rep,.osl 2 (H.length+3) (x.1+1) 0 (m.snaps.filter p).length (m.snaps.filter p).length,.sl true [],.int .i64 m.next]::.cells (x.1+1) (flA dP (m.snaps.filter p))::x.2)) (fun _=>True) ?_ ?_
 ·refine aH (ι:=Nat×AHeap×List Snp×Nat) (fun x=>[(1,.int .i64 c.n),(2,.ref H.length 0 0),(4,.ref (H.length+1) 0 0),(6,.ref (H.length+2) 0 0),(7,.int .i64 x.1)])
   (fun x=>H++(.cells 0 (bC f1 f2 f3 f4 m).cells::.cells 0 (bC true true true true sL).cells::.cells 0 [.sl f1 (m.log.entries.map dM),.sl f2 (m.log.nodes.map ndA),.int .i64 m.seen,.int .i64 m.rep,.osl 2 (H.length+3) (x.2.2.2+1) 0 x.2.2.1.length x.2.2.1.length,.sl true [],.int .i64 m.next]::.cells (x.2.2.2+1) (flA dP x.2.2.1)::x.2.1))
   (fun x=>x.1≤m.snaps.length∧x.2.2.1=(m.snaps.take x.1).filter p) (fun x=>m.snaps.length-x.1) (0,[],[],0) ⟨zAn _,rfl⟩ ?_ rfl ?_
  ·simp[go_sem]
  rintro⟨i,J,D,v⟩ ⟨hi,hD⟩
  simp only at hi hD ⊢
  have hDl:D.length≤i:=by rw[hD];exact zA2 (zAQ _ _) (by rw[zAy];omega)
  obtain⟨G,hG⟩:∃G,H++(.cells 0 (bC f1 f2 f3 f4 m).cells::.cells 0 (bC true true true true sL).cells::.cells 0 [.sl f1 (m.log.entries.map dM),.sl f2 (m.log.nodes.map ndA),.int .i64 m.seen,.int .i64 m.rep,.osl 2 (H.length+3) (v+1) 0 D.length D.length,.sl true [],.int .i64 m.next]::.cells (v+1) (flA dP D)::J)=G:=⟨_,rfl⟩
  rw[hG]
  have g0:hget G H.length=.cells 0 (bC f1 f2 f3 f4 m).cells:=by rw[←hG];simp only[go_sem]
  have g4:hget G (H.length+2)=.cells 0 [.sl f1 (m.log.entries.map dM),.sl f2 (m.log.nodes.map ndA),.int .i64 m.seen,.int .i64 m.rep,.osl 2 (H.length+3) (v+1) 0 D.length D.length,.sl true [],.int .i64 m.next]:=by rw[←hG];simp only[go_sem]
  have g5:hget G (H.length+3)=.cells (v+1) (flA dP D):=by rw[←hG];simp only[go_sem]
  have gA1:=aR g0 trivial
  have g6:=aR g4 trivial
  have g8:=aR g5 trivial
  have q1:∀C,hget (aB G (H.length+3) C) (H.length+2)=.cells 0 [.sl f1 (m.log.entries.map dM),.sl f2 (m.log.nodes.map ndA),.int .i64 m.seen,.int .i64 m.rep,.osl 2 (H.length+3) (v+1) 0 D.length D.length,.sl true [],.int .i64 m.next]:=fun C=>(aP (by omega) _).trans g4
  have q3:∀C,hget (aB G (H.length+3) C) H.length=.cells 0 (bC f1 f2 f3 f4 m).cells:=fun C=>(aP (by omega) _).trans g0
  have q2:∀C X,aB (aB G (H.length+3) C) (H.length+2) X=H++(.cells 0 (bC f1 f2 f3 f4 m).cells::.cells 0 (bC true true true true sL).cells::X::C::J):=fun C X=>by rw[←hG];simp[aB,zB2]
  have hfl:=bQ (enc:=dP) (s:=2) (fun _=>rfl) D
  by_cases hlt:i<m.snaps.length
  ·have hli:decide ((i:Int)<(m.snaps.length:Int))=true:=dT
   have hp:=aJ dP hlt
   have htk:(m.snaps.take (i+1)).filter p=D++(if p m.snaps[i]=true then[m.snaps[i]]else[]):=by
    rw[zAa hlt,zAV,←hD,zBA,List.filter_nil]
   have hpi:=hpa m.snaps[i]
   have hw1:=aK hlt (by omega)
   have hi0:((0:Int)≤(i:Int))=True:=zAI (by omega)
   have hi1:((i:Int)<(m.snaps.length:Int))=True:=zAI (by omega)
   obtain⟨s,hs⟩:∃s,s=m.snaps[i]:=⟨_,rfl⟩
   rw[←hs]at hp htk hpi
   have hq1:(∀e,e=dP s→e.cells.length=2)=True:=zAI (fun e he=>by rw[he];rfl)
   simp only[dP]at hp hq1
   clear hpa hqa hD hs
   by_cases hn:s.n=c.n
   ·have d0:decide (s.n=c.n)=true:=zAd hn
    rw[hpi,d0,zAb (by simp),zAg]at htk
    repeat' first|((first|refine mx [8,13] fF ?_|refine gS ?_);simp only[go_sem,hp,hli,g0,gA1,d0,bC,dN,hi0,hi1])|refine gA ?_|(refine gD (fun h=>?_) (fun h=>?_)<;>try exact aA h)|fail
    exact⟨(i+1,J,D,v),⟨hlt,htk.symm⟩,by simp only;omega,zAp _ hw1,hG.symm⟩
   ·have d0:decide (s.n=c.n)=false:=eT hn
    rw[hpi,d0,zAc (by simp)]at htk
    repeat' first|((first|refine mx [8,13] fF ?_|refine gS ?_);simp only[go_sem,hp,hli,g0,gA1,g4,g5,g6,g8,q1,q3,d0,bC,dN,hfl,hq1,hi0,hi1])|refine gA ?_|(refine gD (fun h=>?_) (fun h=>?_)<;>try exact aA h)|fail
    exact⟨(i+1,J,D++[s],v+1),⟨hlt,htk.symm⟩,by simp only;omega,zAp _ hw1,by rw[q2];simp[flA,dP,bC,dN,AV.cells]⟩
  ·have hie:i=m.snaps.length:=by omega
   have hli:decide ((i:Int)<(m.snaps.length:Int))=false:=dF
   have hD2:D=m.snaps.filter p:=by rw[hD,hie,zAq]
   repeat' first|(refine gS ?_;simp only[go_sem,hli,g0,gA1,bC,dN])|refine gA ?_|(refine gD (fun h=>?_) (fun h=>?_)<;>try exact aA h)|fail
   exact⟨(v,J),by simp only;rw[←hD2];exact hG.symm⟩
 rintro⟨v,J⟩ _
 simp only
 obtain⟨D,hD⟩:∃D,D=m.snaps.filter p:=⟨_,rfl⟩
 have hDl:D.length≤m.snaps.length:=by rw[hD];exact zAQ _ _
 rw[←hD]
 clear hD hpa
 repeat' first|(refine gS ?_;simp only[go_sem])|refine gA ?_|(refine gD (fun h=>?_) (fun h=>?_)<;>try exact aA h)|fail
 obtain⟨G,hG⟩:∃G,H++(.cells 0 (bC f1 f2 f3 f4 m).cells::.cells 0 (bC true true true true sL).cells::.cells 0 [.sl f1 (m.log.entries.map dM),.sl f2 (m.log.nodes.map ndA),.int .i64 m.seen,.int .i64 m.rep,.osl 2 (H.length+3) (v+1) 0 D.length D.length,.sl true [],.int .i64 m.next]::.cells (v+1) (flA dP D)::J)=G:=⟨_,rfl⟩
 rw[hG]
 have g0:hget G H.length=.cells 0 (bC f1 f2 f3 f4 m).cells:=by rw[←hG];simp only[go_sem]
 have gz:hget G (H.length+1)=.cells 0 (bC true true true true sL).cells:=by rw[←hG];simp only[go_sem]
 have g4:hget G (H.length+2)=.cells 0 [.sl f1 (m.log.entries.map dM),.sl f2 (m.log.nodes.map ndA),.int .i64 m.seen,.int .i64 m.rep,.osl 2 (H.length+3) (v+1) 0 D.length D.length,.sl true [],.int .i64 m.next]:=by rw[←hG];simp only[go_sem]
 have g5:hget G (H.length+3)=.cells (v+1) (flA dP D):=by rw[←hG];simp only[go_sem]
 have hGL:H.length+3<G.length:=aU g5 trivial
 have hpre:∃M,G=H++M:=⟨_,hG.symm⟩
 refine nE (H.length+2) 5 4 g4 rfl ?_
 simp only[List.set_cons_succ,List.set_cons_zero]
 refine aH (ι:=Nat×List Wch×Nat) (fun x=>[(1,.int .i64 c.n),(2,.ref H.length 0 0),(4,.ref (H.length+1) 0 0),(6,.ref (H.length+2) 0 0),(8,.int .i64 x.1)])
  (fun x=>aB (G++[.cells (x.2.2+1) (flA cD x.2.1)]) (H.length+2) (.cells 0 [.sl f1 (m.log.entries.map dM),.sl f2 (m.log.nodes.map ndA),.int .i64 m.seen,.int .i64 m.rep,.osl 2 (H.length+3) (v+1) 0 D.length D.length,.osl 4 G.length (x.2.2+1) 0 x.2.1.length x.2.1.length,.int .i64 m.next]))
  (fun x=>x.1≤m.watches.length∧x.2.1=(m.watches.take x.1).filter q) (fun x=>m.watches.length-x.1) (0,[],0) ⟨zAn _,rfl⟩ ?_ rfl ?_
 ·simp[go_sem]
 rintro⟨i,W,u⟩ ⟨hi,hW⟩
 simp only at hi hW ⊢
 have hWl:W.length≤i:=by rw[hW];exact zA2 (zAQ _ _) (by rw[zAy];omega)
 obtain⟨K,hK⟩:∃K,aB (G++[.cells (u+1) (flA cD W)]) (H.length+2) (.cells 0 [.sl f1 (m.log.entries.map dM),.sl f2 (m.log.nodes.map ndA),.int .i64 m.seen,.int .i64 m.rep,.osl 2 (H.length+3) (v+1) 0 D.length D.length,.osl 4 G.length (u+1) 0 W.length W.length,.int .i64 m.next])=K:=⟨_,rfl⟩
 rw[hK]
 have k0:hget K H.length=.cells 0 (bC f1 f2 f3 f4 m).cells:=by rw[←hK,aP (by omega)];exact aG g0 trivial _
 have kz:hget K (H.length+1)=.cells 0 (bC true true true true sL).cells:=by rw[←hK,aP (by omega)];exact aG gz trivial _
 have k4:hget K (H.length+2)=.cells 0 [.sl f1 (m.log.entries.map dM),.sl f2 (m.log.nodes.map ndA),.int .i64 m.seen,.int .i64 m.rep,.osl 2 (H.length+3) (v+1) 0 D.length D.length,.osl 4 G.length (u+1) 0 W.length W.length,.int .i64 m.next]:=by rw[←hK];exact bU (by rw[zAe];omega) _
 have k5:hget K (H.length+3)=.cells (v+1) (flA dP D):=by rw[←hK,aP (by omega)];exact aG g5 trivial _
 have k6:hget K G.length=.cells (u+1) (flA cD W):=by rw[←hK,aP (by omega)];exact(lK rfl).trans rfl
 have kA1:=aR k0 trivial
 have k7:=aR k4 trivial
 have k8:=aR k6 trivial
 have q1:∀C,hget (aB K G.length C) (H.length+2)=.cells 0 [.sl f1 (m.log.entries.map dM),.sl f2 (m.log.nodes.map ndA),.int .i64 m.seen,.int .i64 m.rep,.osl 2 (H.length+3) (v+1) 0 D.length D.length,.osl 4 G.length (u+1) 0 W.length W.length,.int .i64 m.next]:=fun C=>(aP (by omega) _).trans k4
 have q3:∀C,hget (aB K G.length C) H.length=.cells 0 (bC f1 f2 f3 f4 m).cells:=fun C=>(aP (by omega) _).trans k0
 have q2:∀C X,aB (aB K G.length C) (H.length+2) X=aB (G++[C]) (H.length+2) X:=fun C X=>by rw[←hK];exact aUI (by omega) _ _ _ _
 have hfl:=bQ (enc:=cD) (s:=4) (fun _=>rfl) W
 by_cases hlt:i<m.watches.length
 ·have hli:decide ((i:Int)<(m.watches.length:Int))=true:=dT
  have hp:=aJ cD hlt
  have htk:(m.watches.take (i+1)).filter q=W++(if q m.watches[i]=true then[m.watches[i]]else[]):=by
   rw[zAa hlt,zAV,←hW,zBA,List.filter_nil]
  have hpi:=hqa m.watches[i]
  have hw1:=aK hlt (by omega)
  have hi0:((0:Int)≤(i:Int))=True:=zAI (by omega)
  have hi1:((i:Int)<(m.watches.length:Int))=True:=zAI (by omega)
  obtain⟨s,hs⟩:∃s,s=m.watches[i]:=⟨_,rfl⟩
  rw[←hs]at hp htk hpi
  have hq1:(∀e,e=cD s→e.cells.length=4)=True:=zAI (fun e he=>by rw[he];rfl)
  simp only[cD]at hp hq1
  clear hqa hW hs
  by_cases hn:s.n=c.n
  ·have d0:decide (s.n=c.n)=true:=zAd hn
   rw[hpi,d0,zAb (by simp),zAg]at htk
   repeat' first|((first|refine mx [8,13] fF ?_|refine gS ?_);simp only[go_sem,hp,hli,k0,kA1,d0,bC,dN,hi0,hi1])|refine gA ?_|(refine gD (fun h=>?_) (fun h=>?_)<;>try exact aA h)|fail
   exact⟨(i+1,W,u),⟨hlt,htk.symm⟩,by simp only;omega,zAp _ hw1,hK.symm⟩
  ·have d0:decide (s.n=c.n)=false:=eT hn
   rw[hpi,d0,zAc (by simp)]at htk
   repeat' first|((first|refine mx [8,13] fF ?_|refine gS ?_);simp only[go_sem,hp,hli,k0,kA1,k4,k6,k7,k8,q1,q3,d0,bC,dN,hfl,hq1,hi0,hi1])|refine gA ?_|(refine gD (fun h=>?_) (fun h=>?_)<;>try exact aA h)|fail
   exact⟨(i+1,W++[s],u+1),⟨hlt,htk.symm⟩,by simp only;omega,zAp _ hw1,by rw[q2];simp[flA,cD,AV.cells]⟩
 ·have hie:i=m.watches.length:=by omega
  have hli:decide ((i:Int)<(m.watches.length:Int))=false:=dF
  have hW2:m.watches.filter q=W:=by rw[hW,hie,zAq]
  rw[hW2]
  obtain⟨M,hM⟩:=hpre
  have hKp:∃M,K=H++M:=by rw[←hK];exact cR (mJ ⟨M,hM⟩ _) (by omega) _
  have hp1:∀b,∃M,aB K (H.length+1) b=H++M:=fun b=>cR hKp (by omega) b
  have r1:∀C,hget (aB K (H.length+1) (.cells 0 C)) (H.length+1)=.cells 0 C:=fun C=>bU (aU kz trivial) _
  have r3:∀b,hget (aB K (H.length+1) b) (H.length+3)=.cells (v+1) (flA dP D):=fun b=>(aP (by omega) _).trans k5
  have r4:∀b,hget (aB K (H.length+1) b) G.length=.cells (u+1) (flA cD W):=fun b=>(aP (by omega) _).trans k6
  clear hK hG hM hW hqa
  by_cases h1:D.length=m.snaps.length
  ·have d1:decide ((D.length:Int)=(m.snaps.length:Int))=true:=dT
   by_cases h2:W.length=m.watches.length
   ·have d2:decide ((W.length:Int)=(m.watches.length:Int))=true:=dT
    simp only[zAc (show D.length=m.snaps.length∧W.length=m.watches.length from⟨h1,h2⟩)]
    rw[zAb (by decide)]
    repeat' first|((first|refine mx [8,13] fF ?_|refine gS ?_);simp only[go_sem,hli,k0,kA1,kz,k4,k7,d1,d2,bC,dN,r1])|refine gA ?_|(refine gD (fun h=>?_) (fun h=>?_)<;>try exact aA h)|fail
    obtain⟨M2,hM2⟩:=hp1 _
    refine⟨M2,_,hM2,?_,rfl⟩
    exact .tup _ _ rfl (aS (yF f1 f2 _ _ _ _ _ (aC9 _ _) (aGY _ _)) (aS (.cl _ (.int _ _)) cI))
   ·have d2:decide ((W.length:Int)=(m.watches.length:Int))=false:=dF
    simp only[zAb (show ¬(D.length=m.snaps.length∧W.length=m.watches.length)from fun q=>h2 q.2)]
    repeat' first|((first|refine mx [8,13] fF ?_|refine gS ?_);simp only[go_sem,hli,k0,kA1,kz,k4,k7,d1,d2,bC,dN,r1])|refine gA ?_|(refine gD (fun h=>?_) (fun h=>?_)<;>try exact aA h)|fail
    obtain⟨M2,hM2⟩:=hp1 _
    refine⟨M2,_,hM2,?_,rfl⟩
    exact .tup _ _ rfl (aS (yF f1 f2 _ _ _ _ _ (aLA D (by omega) (r3 _) rfl rfl) (aLB W (by omega) (r4 _) rfl rfl)) (aS (.cl _ (.int _ _)) cI))
  ·have d1:decide ((D.length:Int)=(m.snaps.length:Int))=false:=dF
   simp only[zAb (show ¬(D.length=m.snaps.length∧W.length=m.watches.length)from fun q=>h1 q.1)]
   repeat' first|((first|refine mx [8,13] fF ?_|refine gS ?_);simp only[go_sem,hli,k0,kA1,kz,k4,k7,d1,bC,dN,r1])|refine gA ?_|(refine gD (fun h=>?_) (fun h=>?_)<;>try exact aA h)|fail
   obtain⟨M2,hM2⟩:=hp1 _
   refine⟨M2,_,hM2,?_,rfl⟩
   exact .tup _ _ rfl (aS (yF f1 f2 _ _ _ _ _ (aLA D (by omega) (r3 _) rfl rfl) (aLB W (by omega) (r4 _) rfl rfl)) (aS (.cl _ (.int _ _)) cI))
theorem aOn{k:Nat}{H:AHeap}(n:Int):∀(L:List Wch) (m:Nat) (x y:AV),(flA (waP n) L)[m]?=some x→(flA cD (L.map (aBi n)))[m]?=some y→Frz k H x y:=by
 intro L
 induction L with
 |nil=>exact cI
 |cons w L ih=>
  rw[fD,zAA,fD]
  by_cases hn:w.n=n
  ·rw[aBi,zAc hn]
   simp only[waP,cD,zAc hn,AV.cells,zA1,zAG]
   exact aS (.cl _ (.int _ _)) (aS (.cl _ (.int _ _)) (aS (Sim.frz (.sl true []) (by simp only[go_sem])) (aS (.cl _ (.bool _)) ih)))
  ·rw[aBi,zAb hn]
   simp only[waP,cD,zAb hn,AV.cells,zA1,zAG]
   exact aS (.cl _ (.int _ _)) (aS (.cl _ (.int _ _)) (aS (Sim.frz (.sl false _) (by simp only[go_sem])) (aS (.cl _ (.bool _)) ih)))
theorem aIv(f1 f2 f3 f4:Bool)(m:Mdl)(h:MI m){q:Int}(hu:HU m q)(c:Cal)(H:AHeap):
  bD Tryz.prog 31 [bC f1 f2 f3 f4 m,.int .i64 c.n] H (wH m (qP c ⟨m,an0,[]⟩)):=by
 refine fO Tryz.func31 ?_
 rw[aOk hu c]
 have hwn:=h.watches
 simp only[bC,dN]
 repeat' first|(refine gS ?_;simp only[go_sem])|refine gA ?_|(refine gD (fun h=>?_) (fun h=>?_)<;>try exact aA h)|fail
 refine nE (H.length+3) 5 4 (by simp only[go_sem];rfl) rfl ?_
 simp only[go_sem]
 obtain⟨O,hO⟩:∃O:Nat→List AV,O=fun i=>[.sl f1 (m.log.entries.map dM),.sl f2 (m.log.nodes.map ndA),.int .i64 m.seen,.int .i64 m.rep,.sl f3 (m.snaps.map dP),.osl 4 (H.length+5) (i+1) 0 i i,.int .i64 m.next]:=⟨_,rfl⟩
 obtain⟨B,hB⟩:∃B:Bool→Ans→List AV,B=fun g a=>[.int .i64 a.err,.str [],.sl true [],.int .i64 0,.sl g (a.events.map cY)]:=⟨_,rfl⟩
 refine aH (ι:=Nat×AHeap×Bool) (fun x=>[(1,.int .i64 c.n),(2,.ref H.length 0 0),(4,.ref (H.length+1) 0 0),(5,.ref (H.length+2) 0 0),(6,.ref (H.length+3) 0 0),(7,.ref (H.length+4) 0 0),(8,.int .i64 x.1)])
  (fun x=>H++(.cells 0 (bC f1 f2 f3 f4 m).cells::.cells 0 (bC true true true true sL).cells::.cells 0 (jX true true an0).cells::.cells 0 (O x.1)::.cells 0 (B x.2.2 ((m.watches.take x.1).foldl (oK c.n) (gR 191)))::.cells (x.1+1) (flA (waP c.n) (m.watches.take x.1))::x.2.1))
  (fun x=>x.1≤m.watches.length) (fun x=>m.watches.length-x.1) (0,[],true) (zAn _) ?_ (by rw[hO,hB];rfl) ?_
 ·simp[go_sem]
 rintro⟨i,J,fl⟩ hi
 simp only at hi ⊢
 obtain⟨D,hD⟩:∃D,D=m.watches.take i:=⟨_,rfl⟩
 have hDl:D.length=i:=by rw[hD,zAy];omega
 obtain⟨a,ha⟩:∃a,a=(m.watches.take i).foldl (oK c.n) (gR 191):=⟨_,rfl⟩
 rw[←ha,←hD]
 obtain⟨G,hG⟩:∃G,H++(.cells 0 (bC f1 f2 f3 f4 m).cells::.cells 0 (bC true true true true sL).cells::.cells 0 (jX true true an0).cells::.cells 0 (O i)::.cells 0 (B fl a)::.cells (i+1) (flA (waP c.n) D)::J)=G:=⟨_,rfl⟩
 rw[hG]
 have g0:hget G H.length=.cells 0 (bC f1 f2 f3 f4 m).cells:=by rw[←hG];simp only[go_sem]
 have g1:hget G (H.length+1)=.cells 0 (bC true true true true sL).cells:=by rw[←hG];simp only[go_sem]
 have g2:hget G (H.length+2)=.cells 0 (jX true true an0).cells:=by rw[←hG];simp only[go_sem]
 have g3:hget G (H.length+3)=.cells 0 (O i):=by rw[←hG];simp only[go_sem]
 have g4:hget G (H.length+4)=.cells 0 (B fl a):=by rw[←hG];simp only[go_sem]
 have g5:hget G (H.length+5)=.cells (i+1) (flA (waP c.n) D):=by rw[←hG];simp only[go_sem]
 have hGL:H.length+5<G.length:=aU g5 trivial
 have a1:∀c X,hget (aB (G++[c]) (H.length+4) X) G.length=c:=fun c X=>((aP (by omega) _).trans (lK rfl)).trans rfl
 have a2:∀c X Y,aB (aB (G++[c]) (H.length+4) X) G.length Y=aB (G++[Y]) (H.length+4) X:=fun c X Y=>by
  unfold aB
  rw[List.set_comm X Y (show H.length+4≠G.length by omega)]
  simp
 have a3:∀c X,hget (aB (G++[c]) (H.length+4) X) (H.length+3)=.cells 0 (O i):=fun c X=>(aP (by omega) _).trans (aG g3 trivial _)
 have a5:∀d X,hget (aB (G++[d]) (H.length+4) X) (H.length+5)=.cells (i+1) (flA (waP c.n) D):=fun d X=>(aP (by omega) _).trans (aG g5 trivial _)
 have a6:∀c X Y,hget (aB (aB (G++[c]) (H.length+4) X) (H.length+5) Y) (H.length+3)=.cells 0 (O i):=fun c X Y=>(aP (by omega) _).trans (a3 c X)
 have a7:∀c X Y Z,aB (aB (aB (G++[c]) (H.length+4) X) (H.length+5) Y) (H.length+3) Z=H++(.cells 0 (bC f1 f2 f3 f4 m).cells::.cells 0 (bC true true true true sL).cells::.cells 0 (jX true true an0).cells::Z::X::Y::(J++[c])):=fun c X Y Z=>by rw[←hG];simp[aB,zB2]
 have b3:∀c Y,hget (aB (G++[c]) (H.length+5) Y) (H.length+3)=.cells 0 (O i):=fun c Y=>(aP (by omega) _).trans (aG g3 trivial _)
 have b7:∀c Y Z,aB (aB (G++[c]) (H.length+5) Y) (H.length+3) Z=H++(.cells 0 (bC f1 f2 f3 f4 m).cells::.cells 0 (bC true true true true sL).cells::.cells 0 (jX true true an0).cells::Z::.cells 0 (B fl a)::Y::(J++[c])):=fun c Y Z=>by rw[←hG];simp[aB,zB2]
 by_cases hlt:i<m.watches.length
 ·have hli:decide ((i:Int)<(m.watches.length:Int))=true:=dT
  have hp:=aJ cD hlt
  obtain⟨w,hw⟩:∃w,w=m.watches[i]:=⟨_,rfl⟩
  rw[←hw]at hp
  have htk:m.watches.take (i+1)=D++[w]:=by rw[zAa hlt,←hD,←hw]
  have hak:(m.watches.take (i+1)).foldl (oK c.n) (gR 191)=oK c.n a w:=by
   rw[htk,zBL,hD,←ha];rfl
  clear hD ha hw
  have gA1:=aR g0 trivial
  have g6:=aR g3 trivial
  have g8:=aR g5 trivial
  have g9:=aR g4 trivial
  have hw1:=aK hlt (by omega)
  have hfl:=bQ (enc:=waP c.n) (s:=4) (fun _=>rfl) D
  rw[hDl]at hfl
  simp only[cD]at hp
  by_cases hn:w.n=c.n
  ·have d0:decide (w.n=c.n)=true:=zAd hn
   rw[oK,zAc hn]at hak
   repeat' first|((first|refine mx [12] mQ ?_|refine gS ?_);simp only[go_sem,hp,hli,g0,gA1,g3,g4,g5,g6,g8,g9,d0,bC,dN,hfl,hO,hB,a1,a2,a3,a5,a6])|refine gA ?_|(refine gD (fun h=>?_) (fun h=>?_)<;>try exact aA h)|fail
   refine⟨⟨fun e he=>by(rw[he];rfl),by omega⟩,?_⟩
   repeat' first|(refine gS ?_;simp only[go_sem,hO])|refine gA ?_|(refine gD (fun h=>?_) (fun h=>?_)<;>try exact aA h)|fail
   exact⟨(i+1,J++[.cells 0 [.int .i64 w.n,.int .i64 w.dir,.sl true [],.bool w.over]],false),hlt,by simp only;omega,zAp _ hw1,by rw[a7];simp only[hak];simp only[htk,hO,hB];simp[flA,waP,hn,bC,dN,AV.cells,an0]⟩
  ·have d0:decide (w.n=c.n)=false:=eT hn
   rw[oK,zAb hn]at hak
   repeat' first|((first|refine mx [12] mQ ?_|refine gS ?_);simp only[go_sem,hp,hli,g0,gA1,g3,g4,g5,g6,g8,g9,d0,bC,dN,hfl,hO,hB,b3])|refine gA ?_|(refine gD (fun h=>?_) (fun h=>?_)<;>try exact aA h)|fail
   refine⟨⟨fun e he=>by(rw[he];rfl),by omega⟩,?_⟩
   repeat' first|(refine gS ?_;simp only[go_sem,hO])|refine gA ?_|(refine gD (fun h=>?_) (fun h=>?_)<;>try exact aA h)|fail
   exact⟨(i+1,J++[.cells 0 (cD w).cells],fl),hlt,by simp only;omega,zAp _ hw1,by rw[b7];simp only[hak];simp only[htk,hO,hB];simp[flA,waP,cD,hn,bC,dN,AV.cells]⟩
 ·have hie:i=m.watches.length:=by omega
  have hli:decide ((i:Int)<(m.watches.length:Int))=false:=dF
  have e1:∀X,hget (aB G (H.length+1) X) (H.length+2)=.cells 0 (jX true true an0).cells:=fun X=>(aP (by omega) _).trans g2
  have e2:∀X C,hget (aB (aB G (H.length+1) X) (H.length+2) (.cells 0 C)) (H.length+2)=.cells 0 C:=fun X C=>bU (by rw[bK];omega) _
  have e3:∀C Y,hget (aB (aB G (H.length+1) (.cells 0 C)) (H.length+2) Y) (H.length+1)=.cells 0 C:=fun C Y=>(aP (by omega) _).trans (bU (by omega) _)
  have e5:∀X Y,hget (aB (aB G (H.length+1) X) (H.length+2) Y) (H.length+5)=.cells (i+1) (flA (waP c.n) D):=fun X Y=>(aP (by omega) _).trans ((aP (by omega) _).trans g5)
  have hpG:∃M,G=H++M:=⟨_,hG.symm⟩
  have hp1:∀X Y,∃M,aB (aB G (H.length+1) X) (H.length+2) Y=H++M:=fun X Y=>cR (cR hpG (by omega) _) (by omega) _
  have hDW:m.watches=D:=by rw[hD,hie,zAq]
  have e4:∀X,hget (aB G (H.length+1) X) (H.length+4)=.cells 0 (B fl a):=fun X=>(aP (by omega) _).trans g4
  obtain⟨p1,p2,p3⟩:=aFP (n:=c.n) (m.watches.take i) (gR 191) ⟨rfl,rfl,rfl⟩
  rw[←ha]at p1 p2 p3
  have haa:m.watches.foldl (oK c.n) (gR 191)=a:=by rw[ha,hie,zAq]
  rw[haa]
  clear haa ha hD hu h hG
  repeat' first|((first|refine mx [12] mQ ?_|refine gS ?_);simp only[go_sem,hli,g0,g1,g2,g3,g4,g5,bC,dN,hO,hB,e1,e2,e3,e4,p1,p2,p3,jX])|refine gA ?_|(refine gD (fun h=>?_) (fun h=>?_)<;>try exact aA h)|fail
  obtain⟨M2,hM2⟩:=hp1 _ _
  refine⟨M2,_,hM2,?_,rfl⟩
  exact .tup _ _ rfl (aS (yF f1 f2 _ _ _ _ _ (aC9 _ _) (aAb (D:=m.watches.map (aBi c.n)) (by omega) (e5 _ _) (by rw[zAj,hie]) (by rw[bQ (enc:=waP c.n) (s:=4) (fun _=>rfl),zAj,hDW]) (fun _=>rfl) (by rw[←hDW];exact aOn c.n m.watches))) (aS (Sim.frz (fV true fl {err:=a.err,data:=[],names:=[],n:=0,events:=a.events}) (by simp only[jX,go_sem])) cI))
end Go.Proofs.YtolbeecicikoaaaGreatDoor

/- The texts 50 of 53 beneath the rows of this seat (joined by program): the abstract machine, and what the functions answer. No condition. -/
import Derived.Test.YtolbeecicikoaaaGreatDoorWorkAO
import Derived.Test.YtolbeecicikoaaaGreatDoorWorkAR
import Derived.Test.YtolbeecicikoaaaGreatDoorWorkBU
set_option linter.unusedSimpArgs false
set_option linter.unusedVariables false
set_option linter.unusedSectionVars false
set_option maxRecDepth 100000
set_option maxHeartbeats 16000000
namespace Go.Proofs.YtolbeecicikoaaaGreatDoor
theorem aRM(d:TypeDesc):keysIn d []=True:=zAI fun _ h=>by cases h
theorem aOo(d:TypeDesc)(p:AV×AV×Nat)(es:List (AV×AV×Nat)):keysIn d (p::es)=(aHc d p.1=true∧keysIn d es):=propext List.forall_mem_cons
theorem aRN(k l:IntKind)(a b:Int):mX (.int k a) (.int l b)=decide (a=b):=rfl
def aFR:List (AV×AV×Nat):=[(.int .i64 1,.func (.func 46) [] [],0),(.int .i64 2,.func (.func 46) [] [],1),(.int .i64 3,.func (.func 47) [] [],2),(.int .i64 4,.func (.func 48) [] [],3),(.int .i64 5,.func (.func 49) [] [],4),(.int .i64 6,.func (.func 50) [] [],5),(.int .i64 7,.func (.func 51) [] [],6),(.int .i64 8,.func (.func 52) [] [],7),(.int .i64 9,.func (.func 53) [] [],8),(.int .i64 10,.func (.func 54) [] [],9),(.int .i64 11,.func (.func 55) [] [],10),(.int .i64 12,.func (.func 56) [] [],11),(.int .i64 13,.func (.func 57) [] [],12)]
def aG0(k:Int):FuncId:=if k=1∨k=2 then 46 else if k=3 then 47 else if k=4 then 48 else if k=5 then 49 else if k=6 then 50
 else if k=7 then 51 else if k=8 then 52 else if k=9 then 53 else if k=10 then 54 else if k=11 then 55 else if k=12 then 56 else 57
theorem aOp(n:Nat):ClB n (.map aFR 13):=fun p hp=>by
 simp only[aFR,zAv,zAS,zBY]at hp
 rcases hp with rfl|rfl|rfl|rfl|rfl|rfl|rfl|rfl|rfl|rfl|rfl|rfl|rfl
 all_goals exact⟨.int _ _,.func _ _ _ (fun _ _ h=>by simp at h) (fun _ _ h=>by simp at h)⟩
theorem aPr{m:Mdl}(h:MI m):DS m where
 nodes:=by have:=h.nodes.len;omega
 ents:=by have:=h.cap;omega
 ops:=fun e he=>aCS (h.good.ok e.op (zAi.2 ⟨e,he,rfl⟩))
 snaps:=by have:=h.snaps;omega
 watches:=by have:=h.watches;omega
 snap:=fun s hs=>by have:=(h.snap s hs).len;omega
 evs:=fun w hw=>by have:=(h.watch w hw).2.1;omega
theorem aG1{q:Int}{l:List Nd}(h:NsI q l):SmN l:=fun n hn=>by have:=(h.nd n hn).name;omega
theorem aUJ{m:Mdl}(h:MI m){d:Dsk}(hd:MI d.m):TSd m.log.nodes d where
 wf1:=h.nodes.frs.wf
 wf2:=hd.nodes.frs.wf
 sm1:=aG1 h.nodes
 sm2:=aG1 hd.nodes
 len:=by have:=h.nodes.len;omega
 dir:=fun w hw=>(hd.watch w hw).1
def doV(r:Mdl×Ans×List Opn):AV:=.tup [bC false false false false r.1,jX false false r.2.1,.sl false (r.2.2.map opA)]
theorem aLC(f1 f2 f3 f4:Bool)(m:Mdl):Sim (bC f1 f2 f3 f4 m) (bC false false false false m):=
 .agg _ _ rfl (aD (.sl _ _) (aD (.sl _ _) (aD (.refl _) (aD (.refl _) (aD (.sl _ _) (aD (.sl _ _) (aD (.refl _) bJ)))))))
theorem aRO(f1 f2:Bool)(a:Ans):Sim (jX f1 f2 a) (jX false false a):=
 .agg _ _ rfl (aD (.refl _) (aD (.refl _) (aD (.sl _ _) (aD (.refl _) (aD (.sl _ _) bJ)))))
theorem jM(f1 f2 f3 f4 g1 g2 h1:Bool)(m:Mdl)(a:Ans)(o:List Opn):Sim (.tup [bC f1 f2 f3 f4 m,jX g1 g2 a,.sl h1 (o.map opA)]) (doV (m,a,o)):=
 .tup _ _ rfl (aD (aLC _ _ _ _ _) (aD (aRO _ _ _) (aD (.sl _ _) bJ)))
theorem aUK(n:Nat)(f g:Bool)(a:Ans):Cl n (jX f g a):=(Pur.agg _ fun x hx=>by
 simp only[zAv,zAS,zBY]at hx
 rcases hx with rfl|rfl|rfl|rfl|rfl
 ·exact .int _ _
 ·exact .str _
 ·exact .sl _ _ fun x hx=>by(obtain⟨y, -,rfl⟩:=zAi.1 hx;exact .str _)
 ·exact .int _ _
 ·exact .sl _ _ fun x hx=>by(obtain⟨y, -,rfl⟩:=zAi.1 hx;simp only[cY,go_sem])).cl n
theorem aLD{n i v k lc:Nat}{H:AHeap}(m:Mdl)(a:Ans)(o:List Opn)(hn:n≤i)(hh:hget H i=.cells v (flA opA o))(hk:o.length=k):Frz n H (.tup [bC false false false false m,jX false false a,.osl 7 i v 0 k lc]) (doV (m,a,o)):=
 .tup _ _ rfl (aS (.cl _ ((Pur.cl (by simp only[go_sem])) n)) (aS (.cl _ (aUK n false false a)) (aS (qJ hn hh hk (fun _=>rfl) (fun x=>by simp only[go_sem])) cI)))
def sC:List Pl:=[.eff [],.pure 1,.pure 1,.pure 0,.free,.free,.free,.free,.free]
def sD:List Pl:=[.free,.pure 0,.pure 0,.pure 0,.free,.pure 0,.pure 0,.pure 0,.free,.pure 0,.pure 0,.pure 0,.eff [true,true,true,true,true,true,false,false,false],.eff [true,true,true,false,false,false],.free]
attribute [go_sem] sC sD
theorem aFS(r:Int)(H:AHeap):bD Tryz.prog 7 [.int .i64 r] H (.tup [bC false false false false (xL r).1,.int .i64 (xL r).2]):=by
 refine fO Tryz.func7 ?_
 unfold xL
 by_cases h1:r<0
 ·have d1:decide (r<0)=true:=zAd h1
  rw[zAb (by omega)]
  repeat' first|(refine gS ?_;simp only[go_sem,d1])|refine gA ?_|(refine gD (fun h=>?_) (fun h=>?_)<;>try exact aA h)|fail
  exact dY (.tup _ _ rfl (aD (.agg _ _ rfl (aD (.sl _ _) (aD (.sl _ _) (aD (.refl _) (aD (.refl _) (aD (.sl _ _) (aD (.sl _ _) (aD (.refl _) bJ)))))))) (aD (.refl _) bJ)))
 have d1:decide (r<0)=false:=eT h1
 by_cases h2:63<r
 ·have d2:decide (63<r)=true:=zAd h2
  rw[zAb (by omega)]
  repeat' first|(refine gS ?_;simp only[go_sem,d1,d2])|refine gA ?_|(refine gD (fun h=>?_) (fun h=>?_)<;>try exact aA h)|fail
  exact dY (.tup _ _ rfl (aD (.agg _ _ rfl (aD (.sl _ _) (aD (.sl _ _) (aD (.refl _) (aD (.refl _) (aD (.sl _ _) (aD (.sl _ _) (aD (.refl _) bJ)))))))) (aD (.refl _) bJ)))
 have d2:decide (63<r)=false:=eT h2
 rw[zAc (by omega)]
 repeat' first|(refine gS ?_;simp only[go_sem,d1,d2])|refine gA ?_|(refine gD (fun h=>?_) (fun h=>?_)<;>try exact aA h)|fail
 exact dY (.tup _ _ rfl (aD (.agg _ _ rfl (aD (.sl _ _) (aD (.sl _ _) (aD (.refl _) (aD (.refl _) (aD (.sl _ _) (aD (.sl _ _) (aD (.refl _) bJ)))))))) (aD (.refl _) bJ)))
theorem aRP(H:AHeap):ACalls Tryz.prog 21 [] H (fun v H'=>v=.map H.length∧H'=H++[.map aFR 13]):=by
 refine aQ Tryz.func21 ?_
 repeat' first|(refine gS ?_;simp only[go_sem,iX,mY,keyAt,aRN,aRM,aOo,aHc,zCj,zB6,zB4,Int.reduceEq,zAG])|refine gA ?_|(refine gD (fun h=>?_) (fun h=>?_)<;>try exact aA h)|fail
 exact⟨_,[],_,(zAg _).symm,by simp,aAz fun b hb=>by(rw[zAx]at hb;subst hb;exact aOp _),.cl _ (.map _ (by simp)),rfl,rfl⟩
theorem aWk{c:Cal}(hk:chkC c=true):(∃n,keyAt (.int .i64 c.kind) aFR=some (n,.func (.func (aG0 c.kind)) [] []))∧dR Tryz.prog (aG0 c.kind)=true:=by
 rcases rX hk with e|e|e|e|e|e|e|e|e|e|e|e|e<;>rw[e]
 ·exact⟨⟨_,rfl⟩,(cO)⟩
 ·exact⟨⟨_,rfl⟩,(cO)⟩
 ·exact⟨⟨_,rfl⟩,(cO)⟩
 ·exact⟨⟨_,rfl⟩,(cO)⟩
 ·exact⟨⟨_,rfl⟩,(cO)⟩
 ·exact⟨⟨_,rfl⟩,(cO)⟩
 ·exact⟨⟨_,rfl⟩,(cO)⟩
 ·exact⟨⟨_,rfl⟩,(cO)⟩
 ·exact⟨⟨_,rfl⟩,(cO)⟩
 ·exact⟨⟨_,rfl⟩,(cO)⟩
 ·exact⟨⟨_,rfl⟩,(cO)⟩
 ·exact⟨⟨_,rfl⟩,(cO)⟩
 ·exact⟨⟨_,rfl⟩,(cO)⟩
theorem aOq{m:Mdl}(h:MI m){c:Cal}(hc:CS c)(hk:chkC c=true){i j:Nat}{G:AHeap}(hb:KB i j c ⟨m,an0,[]⟩ G):vW Tryz.prog (aG0 c.kind) i j c (dH c ⟨m,an0,[]⟩) G:=by
 have hs:DS (Dsk.m ⟨m,an0,[]⟩):=aPr h
 have hl:(Dsk.ops ⟨m,an0,[]⟩).length≤1000000:=zAn _
 have hsm:∀l,fR m c.n=some l→SmN l:=fun l hl=>by
  unfold fR at hl
  split at hl
  ·cases hl;exact aG1 h.nodes
  ·obtain⟨s,hf,rfl⟩:=zAR.1 hl
   exact aG1 (h.snap s (zA5 hf))
 rcases rX hk with e|e|e|e|e|e|e|e|e|e|e|e|e
 all_goals(unfold dH;rw[e])
 ·exact aGQ hb hs hc hl
 ·exact aGQ hb hs hc hl
 ·exact aLh hb hs hc hl
 ·exact aNU hb hs hc hsm
 ·exact aNV hb hs hc hl
 ·exact aIi hb hs hc hl
 ·exact aUB hb hs hc hsm
 ·exact aN9 hb hs
 ·exact aOb hb hs
 ·exact aLr hb hs hc
 ·exact aOe hb hs
 ·exact aN8 hb
 ·exact aLx hb hs hc (zAn _) ⟨h.cap,by have:=h.nodes.len;simp only;omega⟩
theorem aPt(f1 f2 f3 f4:Bool)(m:Mdl)(h:MI m)(c:Cal)(hc:CS c)(H:AHeap):bD Tryz.prog 10 [bC f1 f2 f3 f4 m,fJ c] H (doV (doM m c)):=by
 refine fO Tryz.func10 ?_
 have hck:=aKl c hc.path hc.to
 simp only[fJ]at hck
 unfold doM
 cases hk:chkC c with
 |false=>
  rw[hk]at hck
  rw[zAc rfl]
  repeat' first|(refine gS ?_;simp only[go_sem,bC,dN,fJ])|refine gA ?_|(refine gD (fun h=>?_) (fun h=>?_)<;>try exact aA h)|fail
  exact dY (jM f1 f2 f3 f4 true true true m (gR 180) [])
 |true=>
  rw[hk]at hck
  rw[zAb (by simp)]
  repeat' first|(refine gS ?_;simp only[go_sem,bC,dN,fJ])|refine gA ?_|fail
  refine iR rfl (fun h=>by cases h) (fun _=>?_)
  refine aCe ?_
  simp only[go_sem]
  have hm:=h
  obtain⟨X2,hX2⟩:∃X:List AV,X=[.sl f1 (m.log.entries.map dM),.sl f2 (m.log.nodes.map ndA),.int .i64 m.seen,.int .i64 m.rep,.sl f3 (m.snaps.map dP),.sl f4 (m.watches.map cD),.int .i64 m.next]:=⟨_,rfl⟩
  obtain⟨X4,hX4⟩:∃X:List AV,X=[.sl true [],.sl true [],.int .i64 0,.int .i64 0,.sl true [],.sl true [],.int .i64 0]:=⟨_,rfl⟩
  obtain⟨X5,hX5⟩:∃X:List AV,X=[.int .i64 0,.str [],.sl true [],.int .i64 0,.sl true []]:=⟨_,rfl⟩
  obtain⟨D0,hD0⟩:∃D:List AV,D=[.sl f1 (m.log.entries.map dM),.sl f2 (m.log.nodes.map ndA),.int .i64 m.seen,.int .i64 m.rep,.sl f3 (m.snaps.map dP),.sl f4 (m.watches.map cD),.int .i64 m.next,.int .i64 0,.str [],.sl true [],.int .i64 0,.sl true [],.int .i64 c.kind,.str c.path,.str c.to,.str c.data,.int .i64 c.n,.sl true []]:=⟨_,rfl⟩
  refine xG (ι:=Unit) (fun _=>[(2,.ref H.length 0 0),(3,.ref (H.length+1) 0 0),(4,.ref (H.length+2) 0 0),(5,.ref (H.length+3) 0 0),(6,.sl true []),(7,.ref (H.length+4) 0 0)])
   (fun _=>H++[.cells 0 X2,.cells 0 [.int .i64 c.kind,.str c.path,.str c.to,.str c.data,.int .i64 c.n],.cells 0 X4,.cells 0 X5,.cells 0 D0]) (fun _=>True) ?_ fun _ _=>?_
  ·rw[hX2,hX4,hX5,hD0]
   repeat' first|(refine gS ?_;simp only[go_sem])|refine gA ?_|(refine gD (fun h=>?_) (fun h=>?_)<;>try exact aA h)|fail
   exact⟨(),trivial⟩
  refine nE (H.length+4) 17 7 (cs:=D0) (v:=0) (by simp only[go_sem]) (by rw[hD0];rfl) ?_
  refine zR (H.length+4) (dkC (H.length+5) c ⟨m,an0,[]⟩) (v:=0) (cs:=D0.set 17 (.osl 7 (H.length+5) 1 0 0 0)) (by simp only[go_sem]) (by rw[hD0];rfl) ?_ ?_
  ·rw[hD0]
   unfold dkC
   repeat' first|exact bJ|refine aD ?_ ?_|exact .refl _|exact .sl _ _
  simp only[go_sem]
  obtain⟨⟨kn,hka⟩,hcok⟩:=aWk hk
  have hkI:keysIn (.int .i64) aFR=True:=zAI (by intro p hp;simp only[aFR,zAv,zAS,zBY]at hp;rcases hp with rfl|rfl|rfl|rfl|rfl|rfl|rfl|rfl|rfl|rfl|rfl|rfl|rfl<;>rfl)
  obtain⟨fid,hfid⟩:∃fid,aG0 c.kind=fid:=⟨_,rfl⟩
  rw[hfid]at hka hcok
  obtain⟨C3,hC3⟩:∃C:List AV,C=[.int .i64 c.kind,.str c.path,.str c.to,.str c.data,.int .i64 c.n]:=⟨_,rfl⟩
  have hw:∀{i j:Nat} {G:AHeap},KB i j c ⟨m,an0,[]⟩ G→vW Tryz.prog fid i j c (dH c ⟨m,an0,[]⟩) G:=fun hb=>hfid▸aOq hm hc hk hb
  obtain⟨⟨e,d1⟩,hr⟩:∃r,dH c ⟨m,an0,[]⟩=r:=⟨_,rfl⟩
  rw[hr]at hw ⊢
  refine xG (ι:=Unit) (fun _=>[(2,.ref H.length 0 0),(3,.ref (H.length+1) 0 0),(4,.ref (H.length+2) 0 0),(5,.ref (H.length+3) 0 0),(6,.sl true []),(7,.ref (H.length+4) 0 0),(8,.func (.func fid) [] []),(9,.bool true)])
   (fun _=>H++[.cells 0 X2,.cells 0 C3,.cells 0 X4,.cells 0 X5,.cells 0 (dkC (H.length+5) c ⟨m,an0,[]⟩),.cells 1 [],.map aFR 13]) (fun _=>True) ?_ fun _ _=>?_
  ·repeat' first|((first|refine mx [4] sC ?_|refine mx [12] sD ?_|refine gS ?_);simp only[go_sem])|refine gA ?_|(refine gD (fun h=>?_) (fun h=>?_)<;>try exact aA h)|fail
   refine lI (aRP _) (cO) ?_
   simp only[go_sem,hka,hkI]
   repeat' first|(refine gS ?_;simp only[go_sem,hka,hkI])|refine gA ?_|(refine gD (fun h=>?_) (fun h=>?_)<;>try exact aA h)|fail
   first|exact⟨(),trivial,⟨rfl,rfl,rfl,rfl,rfl,rfl,rfl,rfl⟩,by rw[hC3]⟩|(refine⟨(),?_⟩;rw[hC3];done)|(refine⟨(),?_⟩;rw[hC3];rfl)|fail "Z"
  repeat' first|(refine gS ?_;simp only[go_sem])|refine gA ?_|(refine gD (fun h=>?_) (fun h=>?_)<;>try exact aA h)|fail
  refine aV (hw (i:=H.length+4) (j:=H.length+5) ⟨by omega,by simp only[go_sem],by simp only[go_sem];rfl⟩) hcok ?_
  rintro v H' ⟨rfl,rfl⟩
  unfold oS
  simp only[go_sem]
  by_cases he:e=0
  ·subst he
   rw[zAc rfl]
   have hmi:MI d1.m:=by
    have:=aKE hm hk (by rw[hr])
    rwa[hr]at this
   have hlen:(if d1.ops=[]then(d1.m,d1.a,[])else((vM m.log.nodes d1).m,d1.a,d1.ops))=if d1.ops=[]then(d1.m,d1.a,([]:List Opn))else((vM m.log.nodes d1).m,d1.a,d1.ops):=rfl
   by_cases ho:d1.ops=[]
   ·have hol:d1.ops.length=0:=by rw[ho];rfl
    rw[zAc ho]
    repeat' first|((first|refine mx [4] sC ?_|refine mx [12] sD ?_|refine gS ?_);simp only[go_sem,hX2,hX4,hX5,dkC,hol,Int.reduceLT])|refine gA ?_|(refine gD (fun h=>?_) (fun h=>?_)<;>try exact aA h)|fail
    exact⟨_,doV (d1.m,d1.a,[]),rfl,aLD d1.m d1.a [] (by omega) (by simp only[go_sem];rw[ho]) rfl,rfl⟩
   ·have hol:decide ((0:Int)<(d1.ops.length:Int))=true:=zAd (by have:=List.length_pos_iff.2 ho;omega)
    rw[zAb ho]
    repeat' first|((first|refine mx [4] sC ?_|refine mx [12] sD ?_|refine gS ?_);simp only[go_sem,hX2,hX4,hX5,dkC,hol])|refine gA ?_|(refine gD (fun h=>?_) (fun h=>?_)<;>try exact aA h)|fail
    refine aV (aOg (i:=H.length+4) (j:=H.length+5) (c:=c) (d:=d1) ⟨by omega,by simp only[go_sem,dkC],by simp only[go_sem]⟩ (aPr hmi) f2 m.log.nodes (aUJ hm hmi)) (cO) ?_
    rintro v H' ⟨rfl,rfl⟩
    unfold oS
    simp only[go_sem,dkC]
    repeat' first|((first|refine mx [4] sC ?_|refine mx [12] sD ?_|refine gS ?_);simp only[go_sem,hX2,hX4,hX5,dkC])|refine gA ?_|(refine gD (fun h=>?_) (fun h=>?_)<;>try exact aA h)|fail
    exact⟨_,doV ((vM m.log.nodes d1).m,d1.a,d1.ops),rfl,aLD (vM m.log.nodes d1).m d1.a d1.ops (by omega) (by simp only[go_sem];rfl) rfl,rfl⟩
  ·have hd:decide (e=0)=false:=eT he
   rw[zAb he]
   repeat' first|(refine gS ?_;simp only[go_sem,hd,hX2,hX4,hX5])|refine gA ?_|(refine gD (fun h=>?_) (fun h=>?_)<;>try exact aA h)|fail
   exact dY (jM f1 f2 f3 f4 true true true m (gR e) [])
end Go.Proofs.YtolbeecicikoaaaGreatDoor

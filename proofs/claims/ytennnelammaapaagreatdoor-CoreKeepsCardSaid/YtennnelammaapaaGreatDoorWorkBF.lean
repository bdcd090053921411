/- What the functions of this seat answer (32 of 38). No condition. -/
import Derived.Test.YtennnelammaapaaGreatDoorWorkBE
set_option linter.unusedSimpArgs false
set_option linter.unusedVariables false
set_option maxRecDepth 100000
set_option maxHeartbeats 16000000
namespace Go.Proofs.YtennnelammaapaaGreatDoor
section
theorem aSX(d:TypeDesc):keysIn d []=True:=zAC fun _ h=>by cases h
theorem aPk(d:TypeDesc)(p:AV×AV×Nat)(es:List (AV×AV×Nat)):keysIn d (p::es)=(aHR d p.1=true∧keysIn d es):=propext List.forall_mem_cons
theorem aSY(k l:IntKind)(a b:Int):mF (.int k a) (.int l b)=decide (a=b):=rfl
def aGe:List (AV×AV×Nat):=[(.int .i64 1,.func (.func 120) [] [],0),(.int .i64 2,.func (.func 120) [] [],1),(.int .i64 3,.func (.func 121) [] [],2),(.int .i64 4,.func (.func 122) [] [],3),(.int .i64 5,.func (.func 123) [] [],4),(.int .i64 6,.func (.func 124) [] [],5),(.int .i64 7,.func (.func 125) [] [],6),(.int .i64 8,.func (.func 126) [] [],7),(.int .i64 9,.func (.func 127) [] [],8),(.int .i64 10,.func (.func 128) [] [],9),(.int .i64 11,.func (.func 129) [] [],10),(.int .i64 12,.func (.func 130) [] [],11),(.int .i64 13,.func (.func 131) [] [],12)]
def aHx(k:Int):FuncId:=if k=1∨k=2 then 120 else if k=3 then 121 else if k=4 then 122 else if k=5 then 123 else if k=6 then 124
 else if k=7 then 125 else if k=8 then 126 else if k=9 then 127 else if k=10 then 128 else if k=11 then 129 else if k=12 then 130 else 131
theorem aPl(n:Nat):ClB n (.map aGe 13):=fun p hp=>by
 simp only[aGe,zAs,zAH,zBv]at hp;rcases hp with rfl|rfl|rfl|rfl|rfl|rfl|rfl|rfl|rfl|rfl|rfl|rfl|rfl;all_goals exact⟨.int _ _,.func _ _ _ (fun _ _ h=>by simp at h) (fun _ _ h=>by simp at h)⟩
theorem aQI{m:Mdl}(h:MI m):DS m where
 nodes:=by have:=h.nodes.len;omega
 ents:=by have:=h.cap;omega
 ops:=fun e he=>aK1 (h.good.ok e.op (zAm.2 ⟨e,he,rfl⟩))
 snaps:=by have:=h.snaps;omega
 watches:=by have:=h.watches;omega
 snap:=fun s hs=>by have:=(h.snap s hs).len;omega
 evs:=fun w hw=>by have:=(h.watch w hw).2.1;omega
theorem aHy{q:Int}{l:List Nd}(h:NsI q l):SmN l:=fun n hn=>by have:=(h.nd n hn).name;omega
theorem aV9{m:Mdl}(h:MI m){d:Dsk}(hd:MI d.m):TSd m.log.nodes d where
 wf1:=h.nodes.frs.wf
 wf2:=hd.nodes.frs.wf
 sm1:=aHy h.nodes
 sm2:=aHy hd.nodes
 len:=by have:=h.nodes.len;omega
 dir:=fun w hw=>(hd.watch w hw).1
def doV(r:Mdl×Ans×List Opn):AV:=.tup [mdA false false false false r.1,anA false false r.2.1,.sl false (r.2.2.map opA)]
theorem aSZ(f1 f2 f3 f4:Bool)(m:Mdl):Sim (mdA f1 f2 f3 f4 m) (mdA false false false false m):=
 .agg _ _ rfl (aP (.sl _ _) (aP (.sl _ _) (aP (.refl _) (aP (.refl _) (aP (.sl _ _) (aP (.sl _ _) (aP (.refl _) dE)))))))
theorem aS0(f1 f2:Bool)(a:Ans):Sim (anA f1 f2 a) (anA false false a):=
 .agg _ _ rfl (aP (.refl _) (aP (.refl _) (aP (.sl _ _) (aP (.refl _) (aP (.sl _ _) dE)))))
theorem aLX(f1 f2 f3 f4 g1 g2 h1:Bool)(m:Mdl)(a:Ans)(o:List Opn):Sim (.tup [mdA f1 f2 f3 f4 m,anA g1 g2 a,.sl h1 (o.map opA)]) (doV (m,a,o)):=
 .tup _ _ rfl (aP (aSZ _ _ _ _ _) (aP (aS0 _ _ _) (aP (.sl _ _) dE)))
theorem aWa(n:Nat)(f g:Bool)(a:Ans):Cl n (anA f g a):=(Pur.agg _ fun x hx=>by
 simp only[zAs,zAH,zBv]at hx;rcases hx with rfl|rfl|rfl|rfl|rfl
 ·exact .int _ _
 ·exact .str _
 ·exact .sl _ _ fun x hx=>by(obtain⟨y, -,rfl⟩:=zAm.1 hx;exact .str _)
 ·exact .int _ _
 ·exact .sl _ _ fun x hx=>by(obtain⟨y, -,rfl⟩:=zAm.1 hx;simp only[fF,go_sem])).cl n
theorem aLY{n i v k lc:Nat}{H:AHeap}(m:Mdl)(a:Ans)(o:List Opn)(hn:n≤i)(hh:hget H i=.cells v (flA opA o))(hk:o.length=k):Frz n H (.tup [mdA false false false false m,anA false false a,.osl 7 i v 0 k lc]) (doV (m,a,o)):=
 .tup _ _ rfl (aT (.cl _ ((Pur.cl (by simp only[go_sem])) n)) (aT (.cl _ (aWa n false false a)) (aT (qN hn hh hk (fun _=>rfl) (fun x=>by simp only[go_sem])) bN)))
def sD:List Pl:=[.eff [],.pure 1,.pure 1,.pure 0,.free,.free,.free,.free,.free]
def sF:List Pl:=[.free,.pure 0,.pure 0,.pure 0,.free,.pure 0,.pure 0,.pure 0,.free,.pure 0,.pure 0,.pure 0,.eff [true,true,true,true,true,true,false,false,false],.eff [true,true,true,false,false,false],.free]
attribute [go_sem] sD sF
theorem aS1(r:Int)(H:AHeap):bH Tryz.prog 28 [.int .i64 r] H (.tup [mdA false false false false (aAe r).1,.int .i64 (aAe r).2]):=by
 refine fO Tryz.func28 ?_;unfold aAe;by_cases h1:r<0
 ·have d1:decide (r<0)=true:=zAj h1;rw[zAe (by omega)]
  repeat' first|(refine gS ?_;simp only[go_sem,d1])|refine gA ?_|(refine gD ?_ ?_<;>intro h<;>try exact aA h)|fail
  exact dY (.tup _ _ rfl (aP (.agg _ _ rfl (aP (.sl _ _) (aP (.sl _ _) (aP (.refl _) (aP (.refl _) (aP (.sl _ _) (aP (.sl _ _) (aP (.refl _) dE)))))))) (aP (.refl _) dE)))
 have d1:decide (r<0)=false:=zAg h1;by_cases h2:63<r
 ·have d2:decide (63<r)=true:=zAj h2;rw[zAe (by omega)]
  repeat' first|(refine gS ?_;simp only[go_sem,d1,d2])|refine gA ?_|(refine gD ?_ ?_<;>intro h<;>try exact aA h)|fail
  exact dY (.tup _ _ rfl (aP (.agg _ _ rfl (aP (.sl _ _) (aP (.sl _ _) (aP (.refl _) (aP (.refl _) (aP (.sl _ _) (aP (.sl _ _) (aP (.refl _) dE)))))))) (aP (.refl _) dE)))
 have d2:decide (63<r)=false:=zAg h2;rw[zAl (by omega)]
 repeat' first|(refine gS ?_;simp only[go_sem,d1,d2])|refine gA ?_|(refine gD ?_ ?_<;>intro h<;>try exact aA h)|fail
 exact dY (.tup _ _ rfl (aP (.agg _ _ rfl (aP (.sl _ _) (aP (.sl _ _) (aP (.refl _) (aP (.refl _) (aP (.sl _ _) (aP (.sl _ _) (aP (.refl _) dE)))))))) (aP (.refl _) dE)))
theorem aS2(H:AHeap):ACalls Tryz.prog 97 [] H (fun v H'=>v=.map H.length∧H'=H++[.map aGe 13]):=by
 refine aQ Tryz.func97 ?_;repeat' first|(refine gS ?_;simp only[go_sem,eO,fS,keyAt,aSY,aSX,aPk,aHR,zCn,zCF,zCl,Int.reduceEq,zAW])|refine gA ?_|(refine gD ?_ ?_<;>intro h<;>try exact aA h)|fail
 exact⟨_,[],_,(zAd _).symm,by simp,jU fun b hb=>by(rw[zAq]at hb;subst hb;exact aPl _),.cl _ (.map _ (by simp)),rfl,rfl⟩
theorem aX3{c:Cal}(hk:chkC c=true):(∃n,keyAt (.int .i64 c.kind) aGe=some (n,.func (.func (aHx c.kind)) [] []))∧dV Tryz.prog (aHx c.kind)=true:=by
 rcases wE hk with e|e|e|e|e|e|e|e|e|e|e|e|e<;>rw[e]
 ·exact⟨⟨_,rfl⟩,(cO)⟩
 ·exact⟨⟨_,rfl⟩,(cO)⟩
 ·exact⟨⟨_,rfl⟩,(cO)⟩
 ·exact⟨⟨_,rfl⟩,(cO)⟩
 ·exact⟨⟨_,rfl⟩,(cO)⟩
 ·exact⟨⟨_,rfl⟩,(cO)⟩
 ·exact⟨⟨_,rfl⟩,(cO)⟩
 ·exact⟨⟨_,rfl⟩,(cO)⟩
 ·exact⟨⟨_,rfl⟩,(cO)⟩
 ·exact⟨⟨_,rfl⟩,(cO)⟩
 ·exact⟨⟨_,rfl⟩,(cO)⟩
 ·exact⟨⟨_,rfl⟩,(cO)⟩
 ·exact⟨⟨_,rfl⟩,(cO)⟩
theorem aPm{m:Mdl}(h:MI m){c:Cal}(hc:CS c)(hk:chkC c=true){i j:Nat}{G:AHeap}(hb:KB i j c ⟨m,an0,[]⟩ G):aEv Tryz.prog (aHx c.kind) i j c (jE c ⟨m,an0,[]⟩) G:=by
 have hs:DS (Dsk.m ⟨m,an0,[]⟩):=aQI h;have hl:(Dsk.ops ⟨m,an0,[]⟩).length≤1000000:=zAo _;have hsm:∀l,rQ m c.n=some l→SmN l:=fun l hl=>by
  unfold rQ at hl;split at hl
  ·cases hl;exact aHy h.nodes
  ·obtain⟨s,hf,rfl⟩:=zAM.1 hl;exact aHy (h.snap s (zAT hf))
 rcases wE hk with e|e|e|e|e|e|e|e|e|e|e|e|e;all_goals(unfold jE;rw[e])
 ·exact aO0 hb hs hc hl
 ·exact aO0 hb hs hc hl
 ·exact aV0 hb hs hc hl
 ·exact aWV hb hs hc hsm
 ·exact aWW hb hs hc hl
 ·exact aUz hb hs hc hl
 ·exact aYy hb hs hc hsm
 ·exact aPa hb hs
 ·exact aPc hb hs
 ·exact aLO hb hs hc
 ·exact aPf hb hs
 ·exact aO9 hb
 ·exact aLT hb hs hc (zAo _) ⟨h.cap,by have:=h.nodes.len;simp only;omega⟩
theorem aWb(f1 f2 f3 f4:Bool)(m:Mdl)(h:MI m)(c:Cal)(hc:CS c)(H:AHeap):bH Tryz.prog 78 [mdA f1 f2 f3 f4 m,dS c] H (doV (doM m c)):=by
 refine fO Tryz.func78 ?_;have hck:=aKU c hc.path hc.to;simp only[dS]at hck;unfold doM;cases hk:chkC c with
 |false=>
  rw[hk]at hck;rw[zAl rfl];repeat' first|(refine gS ?_;simp only[go_sem,mdA,mdF,dS])|refine gA ?_|(refine gD ?_ ?_<;>intro h<;>try exact aA h)|fail
  exact dY (aLX f1 f2 f3 f4 true true true m (errA 180) [])
 |true=>
  rw[hk]at hck;rw[zAe (by simp)]
  repeat' first|(refine gS ?_;simp only[go_sem,mdA,mdF,dS])|refine gA ?_|fail
  refine eJ rfl (fun h=>by cases h) (fun _=>?_)
  refine aGy ?_;simp only[go_sem];have hm:=h;obtain⟨X2,hX2⟩:∃X:List AV,X=[.sl f1 (m.log.entries.map iB),.sl f2 (m.log.nodes.map ndA),.int .i64 m.seen,.int .i64 m.rep,.sl f3 (m.snaps.map iG),.sl f4 (m.watches.map dJ),.int .i64 m.next]:=⟨_,rfl⟩;obtain⟨X4,hX4⟩:∃X:List AV,X=[.sl true [],.sl true [],.int .i64 0,.int .i64 0,.sl true [],.sl true [],.int .i64 0]:=⟨_,rfl⟩;obtain⟨X5,hX5⟩:∃X:List AV,X=[.int .i64 0,.str [],.sl true [],.int .i64 0,.sl true []]:=⟨_,rfl⟩;obtain⟨D0,hD0⟩:∃D:List AV,D=[.sl f1 (m.log.entries.map iB),.sl f2 (m.log.nodes.map ndA),.int .i64 m.seen,.int .i64 m.rep,.sl f3 (m.snaps.map iG),.sl f4 (m.watches.map dJ),.int .i64 m.next,.int .i64 0,.str [],.sl true [],.int .i64 0,.sl true [],.int .i64 c.kind,.str c.path,.str c.to,.str c.data,.int .i64 c.n,.sl true []]:=⟨_,rfl⟩
  refine xR (ι:=Unit) (fun _=>[(2,.ref H.length 0 0),(3,.ref (H.length+1) 0 0),(4,.ref (H.length+2) 0 0),(5,.ref (H.length+3) 0 0),(6,.sl true []),(7,.ref (H.length+4) 0 0)])
   (fun _=>H++[.cells 0 X2,.cells 0 [.int .i64 c.kind,.str c.path,.str c.to,.str c.data,.int .i64 c.n],.cells 0 X4,.cells 0 X5,.cells 0 D0]) (fun _=>True) ?_ fun _ _=>?_
  ·rw[hX2,hX4,hX5,hD0];repeat' first|(refine gS ?_;simp only[go_sem])|refine gA ?_|(refine gD ?_ ?_<;>intro h<;>try exact aA h)|fail
   exact⟨(),trivial⟩
  refine rF (H.length+4) 17 7 (cs:=D0) (v:=0) (by simp only[go_sem]) (by rw[hD0];rfl) ?_
  refine aCL (H.length+4) (dkC (H.length+5) c ⟨m,an0,[]⟩) (v:=0) (cs:=D0.set 17 (.osl 7 (H.length+5) 1 0 0 0)) (by simp only[go_sem]) (by rw[hD0];rfl) ?_ ?_
  ·rw[hD0];unfold dkC;repeat' first|exact dE|refine aP ?_ ?_|exact .refl _|exact .sl _ _
  simp only[go_sem];obtain⟨⟨kn,hka⟩,hcok⟩:=aX3 hk;have hkI:keysIn (.int .i64) aGe=True:=zAC (by intro p hp;simp only[aGe,zAs,zAH,zBv]at hp;rcases hp with rfl|rfl|rfl|rfl|rfl|rfl|rfl|rfl|rfl|rfl|rfl|rfl|rfl<;>rfl)
  obtain⟨fid,hfid⟩:∃fid,aHx c.kind=fid:=⟨_,rfl⟩;rw[hfid]at hka hcok;obtain⟨C3,hC3⟩:∃C:List AV,C=[.int .i64 c.kind,.str c.path,.str c.to,.str c.data,.int .i64 c.n]:=⟨_,rfl⟩;have hw:∀{i j:Nat} {G:AHeap},KB i j c ⟨m,an0,[]⟩ G→aEv Tryz.prog fid i j c (jE c ⟨m,an0,[]⟩) G:=fun hb=>hfid▸aPm hm hc hk hb
  obtain⟨⟨e,d1⟩,hr⟩:∃r,jE c ⟨m,an0,[]⟩=r:=⟨_,rfl⟩;rw[hr]at hw ⊢;refine xR (ι:=Unit) (fun _=>[(2,.ref H.length 0 0),(3,.ref (H.length+1) 0 0),(4,.ref (H.length+2) 0 0),(5,.ref (H.length+3) 0 0),(6,.sl true []),(7,.ref (H.length+4) 0 0),(8,.func (.func fid) [] []),(9,.bool true)])
   (fun _=>H++[.cells 0 X2,.cells 0 C3,.cells 0 X4,.cells 0 X5,.cells 0 (dkC (H.length+5) c ⟨m,an0,[]⟩),.cells 1 [],.map aGe 13]) (fun _=>True) ?_ fun _ _=>?_
  ·repeat' first|((first|refine mx [4] sD ?_|refine mx [12] sF ?_|refine gS ?_);simp only[go_sem])|refine gA ?_|(refine gD ?_ ?_<;>intro h<;>try exact aA h)|fail
   refine dX (aS2 _) (cO) ?_;simp only[go_sem,hka,hkI];repeat' first|(refine gS ?_;simp only[go_sem,hka,hkI])|refine gA ?_|(refine gD ?_ ?_<;>intro h<;>try exact aA h)|fail
   first|exact⟨(),trivial,⟨rfl,rfl,rfl,rfl,rfl,rfl,rfl,rfl⟩,by rw[hC3]⟩|(refine⟨(),?_⟩;rw[hC3];done)|(refine⟨(),?_⟩;rw[hC3];rfl)|fail "Z"
  repeat' first|(refine gS ?_;simp only[go_sem])|refine gA ?_|(refine gD ?_ ?_<;>intro h<;>try exact aA h)|fail
  refine aR (hw (i:=H.length+4) (j:=H.length+5) ⟨by omega,by simp only[go_sem],by simp only[go_sem];rfl⟩) hcok ?_
  rintro v H' ⟨rfl,rfl⟩;unfold oL;simp only[go_sem];by_cases he:e=0
  ·subst he;rw[zAl rfl];have hmi:MI d1.m:=by
    have:=aLa hm hk (by rw[hr])
    rwa[hr]at this
   have hlen:(if d1.ops=[]then(d1.m,d1.a,[])else((zH m.log.nodes d1).m,d1.a,d1.ops))=if d1.ops=[]then(d1.m,d1.a,([]:List Opn))else((zH m.log.nodes d1).m,d1.a,d1.ops):=rfl
   by_cases ho:d1.ops=[]
   ·have hol:d1.ops.length=0:=by rw[ho];rfl
    rw[zAl ho];repeat' first|((first|refine mx [4] sD ?_|refine mx [12] sF ?_|refine gS ?_);simp only[go_sem,hX2,hX4,hX5,dkC,hol,Int.reduceLT])|refine gA ?_|(refine gD ?_ ?_<;>intro h<;>try exact aA h)|fail
    exact⟨_,doV (d1.m,d1.a,[]),rfl,aLY d1.m d1.a [] (by omega) (by simp only[go_sem];rw[ho]) rfl,rfl⟩
   ·have hol:decide ((0:Int)<(d1.ops.length:Int))=true:=zAj (by have:=zBl.2 ho;omega)
    rw[zAe ho];repeat' first|((first|refine mx [4] sD ?_|refine mx [12] sF ?_|refine gS ?_);simp only[go_sem,hX2,hX4,hX5,dkC,hol])|refine gA ?_|(refine gD ?_ ?_<;>intro h<;>try exact aA h)|fail
    refine aR (aPh (i:=H.length+4) (j:=H.length+5) (c:=c) (d:=d1) ⟨by omega,by simp only[go_sem,dkC],by simp only[go_sem]⟩ (aQI hmi) f2 m.log.nodes (aV9 hm hmi)) (cO) ?_
    rintro v H' ⟨rfl,rfl⟩;unfold oL;simp only[go_sem,dkC];repeat' first|((first|refine mx [4] sD ?_|refine mx [12] sF ?_|refine gS ?_);simp only[go_sem,hX2,hX4,hX5,dkC])|refine gA ?_|(refine gD ?_ ?_<;>intro h<;>try exact aA h)|fail
    exact⟨_,doV ((zH m.log.nodes d1).m,d1.a,d1.ops),rfl,aLY (zH m.log.nodes d1).m d1.a d1.ops (by omega) (by simp only[go_sem];rfl) rfl,rfl⟩
  ·have hd:decide (e=0)=false:=zAg he;rw[zAe he];repeat' first|(refine gS ?_;simp only[go_sem,hd,hX2,hX4,hX5])|refine gA ?_|(refine gD ?_ ?_<;>intro h<;>try exact aA h)|fail
   exact dY (aLX f1 f2 f3 f4 true true true m (errA e) [])
end
section
theorem aHz{c:Cal}(h:kB c=false):CS c:=by
 unfold kB at h;simp only[zB6,zA1]at h;exact⟨by omega,by omega,by omega⟩
theorem aS3{l:List Cal}{n:Int}(h:qG l n=true):(∀c∈l,CS c)∧(l.length:Int)≤n:=by
 unfold qG at h;simp only[zAu,zAF,zAJ,zA4]at h;exact⟨fun c hc=>aHz (h.1 c hc),h.2⟩
end
section
theorem wO{H H':AHeap}(hl:H.length≤H'.length)(h:∀j,j<H.length→hget H' j=hget H j):∃L,H'=H++L:=by
 refine⟨H'.drop H.length,?_⟩;refine List.ext_getElem? fun j=>?_
 rw[List.getElem?_append];split
 ·rename_i hj;have:=h j hj;simp only[hget,zAh]at this;rw[zAb hj,zAb (by omega)]at this ⊢
  exact zAx some this
 ·rw[List.getElem?_drop];congr 1;omega
theorem wP{n i v k lc:Nat}{H:AHeap}{cs r:List AV}(D:List Hld)(hn:n≤i)(hh:hget H i=.cells v cs)(hc:cs=flA hdA D++r)(hk:D.length=k):Frz n H (.osl 2 i v 0 k lc) (.sl false (D.map hdA)):=
 iT (es:=D.map hdA) (rest:=r) hn hh hc (by rw[zAn,hk]) (fun e he=>by(obtain⟨x, -,rfl⟩:=zAm.1 he;rfl)) (fun e he=>by(obtain⟨x, -,rfl⟩:=zAm.1 he;simp only[go_sem]))
theorem aLZ(f1 f2:Bool)(t:Tbl)(H:AHeap):HallS (H.length+3) (H.length+1) (H.length+2) 1 1 t.held.length t.waits.length t (H++nU H.length f1 f2 t):=by
 have hf1:=aU (enc:=hdA) (s:=2) (fun _=>rfl) t.held
 have hf2:=aU (enc:=hdA) (s:=2) (fun _=>rfl) t.waits
 unfold nU;exact⟨by simp only[go_sem],⟨[],by simp only[go_sem];try simp,by simp[hf1],fun x hx=>by cases hx⟩,⟨[],by simp only[go_sem];try simp,by simp[hf2],fun x hx=>by cases hx⟩⟩
theorem aL0(f1 f2:Bool)(t:Tbl)(n k:Int)(h1:t.held.length≤1000000)(h2:t.waits.length≤1000000)(H:AHeap):bH Tryz.prog 76 [mP f1 f2 t,.int .i64 n,.int .i64 k] H (.tup [mP false false (bX t n k).1,.int .i64 ((bX t n k).2.getD 0),.bool (bX t n k).2.isSome]):=by
 refine fO Tryz.func76 ?_;have hen:=aBv f1 f2 t h1 h2;simp only[mP]at hen;repeat' first|(refine gS ?_;simp only[go_sem,mP])|refine gA ?_|(refine gD ?_ ?_<;>intro h<;>try exact aA h)|fail
 obtain⟨H0,hH0⟩:∃H0,H++[ABlk.cells 0 [.sl f1 (t.held.map hdA),.sl f2 (t.waits.map hdA)],ABlk.cells 0 [.sl true [],.sl true []]]=H0:=⟨_,rfl⟩;rw[hH0];have hl0:H0.length=H.length+2:=by rw[←hH0];simp
 have g6:hget H0 (H.length+1)=.cells 0 [.sl true [],.sl true []]:=by rw[←hH0];simp only[go_sem]
 refine aR (hen _) (cO) ?_;rintro v H' ⟨rfl,rfl⟩;have hs:=aLZ f1 f2 t H0;have g6:=aD g6 trivial (nU H0.length f1 f2 t);have hl1:(H0++nU H0.length f1 f2 t).length=H.length+6:=by rw[zAa,hl0];rfl
 have hpre:∀j,j<H.length→hget (H0++nU H0.length f1 f2 t) j=hget H j:=fun j hj=>by rw[←hH0,zAr];simp only[hget,zAh];rw[zAt hj]
 obtain⟨G,hG⟩:∃G,H0++nU H0.length f1 f2 t=G:=⟨_,rfl⟩;rw[hG]at hs g6 hl1 hpre ⊢;rw[hl0]at hs;have hs:HallS (H.length+5) (H.length+3) (H.length+4) 1 1 t.held.length t.waits.length t G:=hs;simp only[go_sem];repeat' first|(refine gS ?_;simp only[go_sem,hl0])|refine gA ?_|(refine gD ?_ ?_<;>intro h<;>try exact aA h)|fail
 refine aR (aHw hs (by omega) (by omega) (by omega) h1 h2 n k) (cO) ?_
 rintro v H' ⟨rfl,⟨q1,⟨r1,q2, -, -⟩,⟨r2,q3, -, -⟩⟩,hl2,ho⟩;have g7:hget H' (H.length+1)=.cells 0 [.sl true [],.sl true []]:=by rw[ho _ (by omega) (by omega) (by omega)];exact g6
 unfold aEF;have g8:=fun v X=>aX (aV g7 trivial) (.cells v X)
 simp only[go_sem];repeat' first|(refine gS ?_;simp only[go_sem,q1,g7,g8])|refine gA ?_|(refine gD ?_ ?_<;>intro h<;>try exact aA h)|fail
 obtain⟨X,hX⟩:∃X,aB H' (H.length+1) (ABlk.cells 0 [.osl 2 (H.length+3) 1 0 (bX t n k).1.held.length t.held.length,.osl 2 (H.length+4) 1 0 (bX t n k).1.waits.length t.waits.length])=X:=⟨_,rfl⟩;have x2:hget X (H.length+3)=.cells 1 (flA hdA (bX t n k).1.held++r1):=by rw[←hX];exact aH q2 (by omega) _
 have x3:hget X (H.length+4)=.cells 1 (flA hdA (bX t n k).1.waits++r2):=by rw[←hX];exact aH q3 (by omega) _
 obtain⟨L,hL⟩:=wO (H:=H) (H':=X) (by rw[←hX,aC];omega) fun j hj=>by rw[←hX,aY (by omega),ho _ (by omega) (by omega) (by omega),hpre j hj]
 rw[hX];exact⟨L,.tup [mP false false (bX t n k).1,.int .i64 ((bX t n k).2.getD 0),.bool (bX t n k).2.isSome],hL,.tup _ _ rfl (aT (.agg _ _ rfl (aT (wP _ (by omega) x2 rfl rfl) (aT (wP _ (by omega) x3 rfl rfl) bN))) (aT (.cl _ (.int _ _)) (aT (.cl _ (.bool _)) bN))),rfl⟩
theorem aPn(l:List Hld)(p:Hld→Bool)(i v lc n:Nat)(hn:n=l.length)(hlc:n≤lc)(hl:n≤1073741824){fn:Fn}{fs cs:List AV}(Gd:AHeap→Prop)(hGd:∀G b,Gd G→Gd (aB G i b))(hGa:∀G L,Gd G→Gd (G++L))(H:AHeap)(hh:hget H i=.cells v (flA hdA l))
  (hf:∀x G,Gd G→ACall Tryz.prog (.func fn fs cs) [hdA x] G (fun r G'=>r=.bool (p x)∧G'=G)) (hg:Gd H):
  ACalls Tryz.prog 136 [.osl 2 i v 0 n lc,.func fn fs cs] H (fun r H'=>∃rest,r=.osl 2 i v 0 (l.filter (fun x=> !p x)).length lc∧H'=aB H i (.cells v (flA hdA (l.filter (fun x=> !p x))++rest))∧rest.length=(n-(l.filter (fun x=> !p x)).length) * 2∧∀x∈rest,Pur x):=by
 refine aO Tryz.func136 ?_;have hidx:=aHv l p i v lc n hn hlc hl H hh (fun x=>hf x H hg)
 have hilt:=aV hh trivial;have hf':=hf;simp only[hdA]at hf';by_cases h1:cQ p l= -1
 ·rw[h1]at hidx;repeat' first|((first|refine aZ (hidx) (cO) ?_|refine bA (hidx) (cO) ?_|refine bB (fun _=>hidx) (cO) ?_|refine gS ?_);simp only[go_sem,hh,Int.reduceEq])|refine gA ?_|(refine gD ?_ ?_<;>intro h<;>try exact aA h)|fail
  refine⟨H,[],_,(zAd _).symm,rfl,fun k b hk=>.inl hk,.cl _ (.osl _ _ _ _ _ _ hilt),[],?_,?_,?_,fun x h=>(by cases h)⟩
  ·rw[eQ h1,hn]
  ·rw[eQ h1,zAd];exact(cI hh trivial).symm
  ·rw[eQ h1,hn];simp
 ·obtain⟨A,x,B,rfl,e2,e3,e4⟩:=mO h1;rw[e2]at hidx;have hA:n=A.length+(B.length+1):=by simp[hn]
  have hd:decide (((A.length:Nat):Int)= -1)=false:=dF;have hw:IntKind.i64.wrap ((A.length:Int)+1)=((A.length+1:Nat):Int):=by rw[wI];rfl
  repeat' first|((first|refine aZ (hidx) (cO) ?_|refine bA (hidx) (cO) ?_|refine bB (fun _=>hidx) (cO) ?_|refine gS ?_);simp only[go_sem,hh,hd,hw])|refine gA ?_|(refine gD ?_ ?_<;>intro h<;>try exact aA h)|fail
  generalize hL:A++x::B=L at *;refine aI (ι:=Nat×Nat×List Hld×AHeap) (fun s=>[(0,.osl 2 i v 0 n lc),(1,.func fn fs cs),(5,.int .i64 s.1),(6,.int .i64 s.2.1)])
   (fun s=>aB H i (.cells v (flA hdA s.2.2.1))++s.2.2.2) (fun s=>s.1<s.2.1∧s.2.1≤n∧s.2.2.1.length=n∧s.2.2.1.take s.1=(L.take s.2.1).filter (fun x=> !p x)∧s.2.2.1.drop s.2.1=L.drop s.2.1) (fun s=>n-s.2.1) (A.length,A.length+1,L,[])
   ⟨by simp,by simp only;omega,hn.symm,?_,rfl⟩ ?_ (by rw[zAd];exact(cI hh trivial).symm) ?_
  ·simp only;rw[←hL,zBA,show A++x::B=(A++[x])++B by simp,show A.length+1=(A++[x]).length by simp,zBA,zAY,e4];simp[e3]
  ·simp[go_sem]
  ·rintro⟨k,j,E,M⟩ ⟨w1,w2,w3,w4,w5⟩;simp only at w1 w2 w3 w4 w5 ⊢;obtain⟨G,hG⟩:∃G,aB H i (.cells v (flA hdA E))++M=G:=⟨_,rfl⟩;rw[hG];have g0:hget G i=.cells v (flA hdA E):=by rw[←hG];exact aD (b:=.cells v (flA hdA E)) (aX hilt _) trivial M
   have g1:=aG g0 trivial;have g2:=cC g0 trivial;have gg:Gd G:=by rw[←hG];exact hGa _ _ (hGd _ _ hg)
   have gs:∀X,aB G i X=aB H i X++M:=fun X=>by rw[←hG,bD (by rw[aC];exact hilt),bE]
   have hE:(flA hdA E).length=n * 2:=by rw[aU (s:=2) (fun _=>rfl),w3]
   by_cases hj:j<n
   ·have hli:decide ((j:Int)<(n:Int))=true:=dT;have hjL:j<L.length:=by omega
    have hEj:E[j]'(by omega)=L[j]:=by
     have a:=zAi (l:=E) (i:=j) (by omega)
     have b:=zAi hjL;rw[w5,b]at a;exact(zBn a).1.symm
    have hgy:=iM (enc:=hdA) (s:=2) (fun _=>rfl) (D:=E) (k:=j) (by omega)
    rw[hEj]at hgy;simp only[hdA,AV.cells]at hgy;have hw1:IntKind.i64.wrap ((j:Int)+1)=((j+1:Nat):Int):=by rw[wI];rfl
    have hw2:IntKind.i64.wrap ((k:Int)+1)=((k+1:Nat):Int):=by rw[wI];rfl
    have hset1:=qF (enc:=hdA) (s:=2) (fun _=>rfl) (D:=E) (k:=k) (by omega) L[j]
    simp only[hdA,AV.cells]at hset1;have etk:L.take (j+1)=L.take j++[L[j]]:=zAk hjL;repeat' first|(refine gS ?_;simp only[go_sem,g0,g1,hli,hE,hgy])|refine gA ?_|(refine gD ?_ ?_<;>intro h<;>try exact aA h)|fail
    refine iV (hf' L[j] _ (hGa _ _ gg)) ?_;cases hpj:p L[j]with
    |true=>
     simp only[go_sem];repeat' first|(refine gS ?_;simp only[go_sem])|refine gA ?_|(refine gD ?_ ?_<;>intro h<;>try exact aA h)|fail
     refine⟨(k,j+1,E,M++[.cells 0 (hdA L[j]).cells]),⟨by simp only;omega,by simp only;omega,w3,?_,?_⟩,by simp only;omega,⟨rfl,zAx _ hw1⟩,?_⟩
     ·simp only;rw[etk,zAY,←w4,zA5,zAe (by simp[hpj])];simp
     ·simp only;have a:=zAi (l:=E) (i:=j) (by omega)
      have b:=zAi hjL;rw[w5,b]at a;exact(zBn a).2.symm
     ·show G++[.cells 0 (hdA L[j]).cells]=_;rw[←hG,zAr]
    |false=>
     simp only[go_sem];repeat' first|(refine gS ?_;simp only[go_sem,g0,g1,g2,hE,hset1])|refine gA ?_|(refine gD ?_ ?_<;>intro h<;>try exact aA h)|fail
     refine⟨(k+1,j+1,E.set k L[j],M++[.cells 0 (hdA L[j]).cells]),⟨by simp only;omega,by simp only;omega,by simp only[zAG];exact w3,?_,?_⟩,by simp only;omega,⟨zAx _ hw2,zAx _ hw1⟩,?_⟩
     ·simp only;rw[etk,zAY,←w4,zA5,zAl (by simp[hpj]),zAk (by simp;omega),zBj,zCe (zAf _)]
      rfl
     ·simp only;rw[zCf (by omega)]
      have a:=zAi (l:=E) (i:=j) (by omega)
      have b:=zAi hjL;rw[w5,b]at a;exact(zBn a).2.symm
     ·show aB G i (.cells v (flA hdA (E.set k L[j])))++[.cells 0 (hdA L[j]).cells]=_;rw[gs,zAr]
   ·have hje:j=n:=by omega
    subst hje;have hli:decide ((j:Int)<(j:Int))=false:=by simp
    repeat' first|(refine gS ?_;simp only[go_sem,g0,g1,g2,hli,hE])|refine gA ?_|(refine gD ?_ ?_<;>intro h<;>try exact aA h)|fail
    rw[hn,zAD]at w4;obtain⟨F,hF⟩:∃F,F=L.filter (fun x=> !p x):=⟨_,rfl⟩
    rw[←hF]at w4 ⊢;have hk:k=F.length:=by rw[←w4,zAL];omega
    have hFl:=aU (enc:=hdA) (s:=2) (fun _=>rfl) F
    have hsp:∀Z:List AV,∃rest,bG (flA hdA E) (k * 2) Z=flA hdA F++rest∧(Z.length≤(j-k) * 2→rest.length=(j-k) * 2)∧((∀x∈Z,Pur x)→∀x∈rest,Pur x):=fun Z=>by
     have e:=cD (A:=flA hdA F) (B:=flA hdA (E.drop k)) (off:=k * 2) (X:=Z) (by rw[hFl,hk])
     rw[←cB,←w4,zAS]at e;rw[w4]at e;refine⟨Z++(flA hdA (E.drop k)).drop Z.length,e,fun hz=>by rw[zAa,zAX,aU (s:=2) (fun _=>rfl),zAX,w3];omega,fun hz x hx=>?_⟩
     rcases zAy.1 hx with hx|hx
     ·exact hz x hx
     ·exact(eY (fun x=>by simp only[go_sem]) (E.drop k) x (zBq hx))
    obtain⟨rest,hr,hrl,hz⟩:=hsp (List.flatMap AV.cells (List.replicate (j-k) (.agg [.int .i64 0,.int .i64 0])));rw[hr,gs];have gM:∀c,hget (aB H i (.cells v c)++M) i=.cells v c:=fun c=>aD (b:=.cells v c) (aX hilt _) trivial M
    simp only[gM];refine⟨⟨trivial,by omega,by omega⟩,?_⟩
    repeat' first|(refine gS ?_;simp only[go_sem])|refine gA ?_|(refine gD ?_ ?_<;>intro h<;>try exact aA h)|fail
    have hz:=hz fun x hx=>by
     rw[zBC]at hx;obtain⟨e,he,hx⟩:=hx;rw[zCj]at he;obtain⟨-,rfl⟩:=he;simp only[AV.cells,zAs,zAH,zBv]at hx;rcases hx with rfl|rfl<;>first|exact .int _ _|exact .bool _|exact .str _|exact .sl _ _ (fun _ h=>by cases h)
    refine⟨_,M,_,rfl,by rw[aC],dW ?_,.cl _ (.osl _ _ _ _ _ _ hilt),rest,by rw[hk],rfl,by rw[←hk];exact hrl (by rw[rB (s:=2) (fun e he=>by rw[(zCj.1 he).2];rfl),List.length_replicate];exact zAf _),hz⟩
    intro x hx;rcases zAy.1 hx with hx|hx
    ·exact(eY (fun x=>by simp only[go_sem]) F x hx).cl _
    ·exact(hz x hx).cl _
theorem aL1{i:Nat}{n:Int}{G:AHeap}(hi:hget G i=.cells 0 [.int .i64 n])(s:Hld):bH Tryz.prog 137 [hdA s,.ref i 0 0] G (.bool (decide (s.thr=n))):=by
 refine fO Tryz.func137 ?_;have hi1:=aG hi trivial;repeat' first|(refine gS ?_;simp only[go_sem,hdA,hi,hi1])|refine gA ?_|(refine gD ?_ ?_<;>intro h<;>try exact aA h)|fail
 exact dY (.refl _)
end
end Go.Proofs.YtennnelammaapaaGreatDoor

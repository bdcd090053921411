/- The texts 47 of 51 beneath the rows of this seat (joined by program): the abstract machine, and what the functions answer. No condition. -/
import Derived.Test.YthhdnjiodklmmaaGreatDoorWorkAW
import Derived.Test.YthhdnjiodklmmaaGreatDoorWorkBA
import Derived.Test.YthhdnjiodklmmaaGreatDoorWorkBT
set_option linter.unusedSimpArgs false
set_option linter.unusedVariables false
set_option linter.unusedSectionVars false
/- model.New and Do: what they answer. No condition but what is known of a replica. -/
namespace Go.Aw
open Go
theorem aQ6(d:TypeDesc):keysIn d []=True:=eq_true fun _ h=>by cases h
theorem aM8(d:TypeDesc)(p:AV×AV×Nat)(es:List (AV×AV×Nat)):keysIn d (p::es)=(aA8 d p.1=true∧keysIn d es):=propext List.forall_mem_cons
theorem aQ7(k l:IntKind)(a b:Int):iG (.int k a) (.int l b)=decide (a=b):=rfl
end Go.Aw
namespace Go.Gw
open Go Go.Aw Go.Proofs.YthhdnjiodklmmaaGreatDoor
def aFr:List (AV×AV×Nat):=[(.int .i64 1,.func (.func 67) [] [],0),(.int .i64 2,.func (.func 67) [] [],1),(.int .i64 3,.func (.func 68) [] [],2),(.int .i64 4,.func (.func 69) [] [],3),(.int .i64 5,.func (.func 70) [] [],4),(.int .i64 6,.func (.func 71) [] [],5),(.int .i64 7,.func (.func 72) [] [],6),(.int .i64 8,.func (.func 73) [] [],7),(.int .i64 9,.func (.func 74) [] [],8),(.int .i64 10,.func (.func 75) [] [],9),(.int .i64 11,.func (.func 76) [] [],10),(.int .i64 12,.func (.func 77) [] [],11),(.int .i64 13,.func (.func 78) [] [],12)]
def aGl(k:Int):FuncId:=if k=1∨k=2 then 67 else if k=3 then 68 else if k=4 then 69 else if k=5 then 70 else if k=6 then 71
 else if k=7 then 72 else if k=8 then 73 else if k=9 then 74 else if k=10 then 75 else if k=11 then 76 else if k=12 then 77 else 78
theorem aM9(n:Nat):ClB n (.map aFr 13):=fun p hp=>by
 simp only[aFr,List.mem_cons,List.not_mem_nil,or_false]at hp
 rcases hp with rfl|rfl|rfl|rfl|rfl|rfl|rfl|rfl|rfl|rfl|rfl|rfl|rfl
 all_goals exact⟨.int _ _,.func _ _ _ (fun _ _ h=>by simp at h) (fun _ _ h=>by simp at h)⟩
theorem aN7{m:Mdl}(h:MI m):DS m where
 nodes:=by have:=h.nodes.len;omega
 ents:=by have:=h.cap;omega
 ops:=fun e he=>aAO (h.good.ok e.op (List.mem_map.2 ⟨e,he,rfl⟩))
 snaps:=by have:=h.snaps;omega
 watches:=by have:=h.watches;omega
 snap:=fun s hs=>by have:=(h.snap s hs).len;omega
 evs:=fun w hw=>by have:=(h.watch w hw).2.1;omega
theorem aA2{q:Int}{l:List Nd}(h:NsI q l):SmN l:=fun n hn=>by have:=(h.nd n hn).name;omega
theorem aUE{m:Mdl}(h:MI m){d:Dsk}(hd:MI d.m):TS m.log.nodes d where
 wf1:=h.nodes.frs.wf
 wf2:=hd.nodes.frs.wf
 sm1:=aA2 h.nodes
 sm2:=aA2 hd.nodes
 len:=by have:=h.nodes.len;omega
 dir:=fun w hw=>(hd.watch w hw).1
def doV(r:Mdl×Ans×List Opn):AV:=.tup [cC false false false false r.1,iD false false r.2.1,.sl false (r.2.2.map opA)]
theorem aQ8(f1 f2 f3 f4:Bool)(m:Mdl):Sim (cC f1 f2 f3 f4 m) (cC false false false false m):=
 .agg _ _ rfl (aQ (.sl _ _) (aQ (.sl _ _) (aQ (.refl _) (aQ (.refl _) (aQ (.sl _ _) (aQ (.sl _ _) (aQ (.refl _) fL)))))))
theorem aQ9(f1 f2:Bool)(a:Ans):Sim (iD f1 f2 a) (iD false false a):=
 .agg _ _ rfl (aQ (.refl _) (aQ (.refl _) (aQ (.sl _ _) (aQ (.refl _) (aQ (.sl _ _) fL)))))
theorem aKy(f1 f2 f3 f4 g1 g2 h1:Bool)(m:Mdl)(a:Ans)(o:List Opn):Sim (.tup [cC f1 f2 f3 f4 m,iD g1 g2 a,.sl h1 (o.map opA)]) (doV (m,a,o)):=
 .tup _ _ rfl (aQ (aQ8 _ _ _ _ _) (aQ (aQ9 _ _ _) (aQ (.sl _ _) fL)))
theorem aUF(n:Nat)(f g:Bool)(a:Ans):Cl n (iD f g a):=(Pur.agg _ fun x hx=>by
 simp only[List.mem_cons,List.not_mem_nil,or_false]at hx
 rcases hx with rfl|rfl|rfl|rfl|rfl
 ·exact .int _ _
 ·exact .str _
 ·exact .sl _ _ fun x hx=>by(obtain⟨y, -,rfl⟩:=List.mem_map.1 hx;exact .str _)
 ·exact .int _ _
 ·exact .sl _ _ fun x hx=>by(obtain⟨y, -,rfl⟩:=List.mem_map.1 hx;simp only[gF,go_sem])).cl n
theorem aKz{n i v k lc:Nat}{H:AHeap}(m:Mdl)(a:Ans)(o:List Opn)(hn:n≤i)(hh:hget H i=.cells v (flA opA o))(hk:o.length=k):Frz n H (.tup [cC false false false false m,iD false false a,.osl 7 i v 0 k lc]) (doV (m,a,o)):=
 .tup _ _ rfl (dW (.cl _ ((Pur.cl (by simp only[go_sem])) n)) (dW (.cl _ (aUF n false false a)) (dW (pJ hn hh hk (fun _=>rfl) (fun x=>by simp only[go_sem])) gQ)))
end Go.Gw
namespace Go.Proofs.YthhdnjiodklmmaaGreatDoor
open Go Go.Aw Go.Gw
set_option linter.unusedSimpArgs false
set_option linter.unusedVariables false
set_option maxRecDepth 20000
set_option maxHeartbeats 4000000
def qW:List Pl:=[.eff [],.pure 1,.pure 1,.pure 0,.free,.free,.free,.free,.free]
def qX:List Pl:=[.free,.pure 0,.pure 0,.pure 0,.free,.pure 0,.pure 0,.pure 0,.free,.pure 0,.pure 0,.pure 0,.eff [true,true,true,true,true,true,false,false,false],.eff [true,true,true,false,false,false],.free]
attribute [go_sem] qW qX
theorem mR(r:Int)(H:AHeap):cJ Tryz.prog 12 [.int .i64 r] H (.tup [cC false false false false (oI r).1,.int .i64 (oI r).2]):=by
 refine aL Tryz.func12 rfl (Nat.le_of_ble_eq_true rfl) ?_
 unfold oI
 by_cases h1:r<0
 ·have d1:decide (r<0)=true:=decide_eq_true h1
  rw[if_neg (by omega)]
  repeat' first|(refine gS ?_;simp only[go_sem,d1])|refine gA ?_|(refine gD (fun h=>?_) (fun h=>?_)<;>try exact aA h)|fail
  exact done (by simp only[go_sem]) (.tup _ _ rfl (aQ (.agg _ _ rfl (aQ (.sl _ _) (aQ (.sl _ _) (aQ (.refl _) (aQ (.refl _) (aQ (.sl _ _) (aQ (.sl _ _) (aQ (.refl _) fL)))))))) (aQ (.refl _) fL)))
 have d1:decide (r<0)=false:=decide_eq_false h1
 by_cases h2:63<r
 ·have d2:decide (63<r)=true:=decide_eq_true h2
  rw[if_neg (by omega)]
  repeat' first|(refine gS ?_;simp only[go_sem,d1,d2])|refine gA ?_|(refine gD (fun h=>?_) (fun h=>?_)<;>try exact aA h)|fail
  exact done (by simp only[go_sem]) (.tup _ _ rfl (aQ (.agg _ _ rfl (aQ (.sl _ _) (aQ (.sl _ _) (aQ (.refl _) (aQ (.refl _) (aQ (.sl _ _) (aQ (.sl _ _) (aQ (.refl _) fL)))))))) (aQ (.refl _) fL)))
 have d2:decide (63<r)=false:=decide_eq_false h2
 rw[if_pos (by omega)]
 repeat' first|(refine gS ?_;simp only[go_sem,d1,d2])|refine gA ?_|(refine gD (fun h=>?_) (fun h=>?_)<;>try exact aA h)|fail
 exact done (by simp only[go_sem]) (.tup _ _ rfl (aQ (.agg _ _ rfl (aQ (.sl _ _) (aQ (.sl _ _) (aQ (.refl _) (aQ (.refl _) (aQ (.sl _ _) (aQ (.sl _ _) (aQ (.refl _) fL)))))))) (aQ (.refl _) fL)))
theorem aRa(H:AHeap):ACalls Tryz.prog 32 [] H (fun v H'=>v=.map H.length∧H'=H++[.map aFr 13]):=by
 refine fW Tryz.func32 rfl (Nat.le_of_ble_eq_true rfl) ?_
 repeat' first|(refine gS ?_;simp only[go_sem,dR,lW,keyAt,aQ7,aQ6,aM8,aA8,cond_false,Option.map_none,decide_false,Int.reduceEq,List.nil_append])|refine gA ?_|(refine gD (fun h=>?_) (fun h=>?_)<;>try exact aA h)|fail
 exact⟨_,[],_,(List.append_nil _).symm,by simp,aAq fun b hb=>by(rw[List.mem_singleton]at hb;subst hb;exact aM9 _),.cl _ (.map _ (by simp)),rfl,rfl⟩
theorem aWb{c:Cal}(hk:chkC c=true):(∃n,keyAt (.int .i64 c.kind) aFr=some (n,.func (.func (aGl c.kind)) [] []))∧aB Tryz.prog (aGl c.kind)=true:=by
 rcases vD hk with e|e|e|e|e|e|e|e|e|e|e|e|e<;>rw[e]
 ·exact⟨⟨_,rfl⟩,aBC⟩
 ·exact⟨⟨_,rfl⟩,aBC⟩
 ·exact⟨⟨_,rfl⟩,aGK⟩
 ·exact⟨⟨_,rfl⟩,aGL⟩
 ·exact⟨⟨_,rfl⟩,aGM⟩
 ·exact⟨⟨_,rfl⟩,aGN⟩
 ·exact⟨⟨_,rfl⟩,aGO⟩
 ·exact⟨⟨_,rfl⟩,aGP⟩
 ·exact⟨⟨_,rfl⟩,aGQ⟩
 ·exact⟨⟨_,rfl⟩,aGR⟩
 ·exact⟨⟨_,rfl⟩,aGS⟩
 ·exact⟨⟨_,rfl⟩,aGT⟩
 ·exact⟨⟨_,rfl⟩,aGU⟩
theorem aNa{m:Mdl}(h:MI m){c:Cal}(hc:CS c)(hk:chkC c=true){i j:Nat}{G:AHeap}(hb:KB i j c ⟨m,an0,[]⟩ G):vH Tryz.prog (aGl c.kind) i j c (dV c ⟨m,an0,[]⟩) G:=by
 have hs:DS (Dsk.m ⟨m,an0,[]⟩):=aN7 h
 have hl:(Dsk.ops ⟨m,an0,[]⟩).length≤1000000:=Nat.zero_le _
 have hsm:∀l,eG m c.n=some l→SmN l:=fun l hl=>by
  unfold eG at hl
  split at hl
  ·cases hl;exact aA2 h.nodes
  ·obtain⟨s,hf,rfl⟩:=Option.map_eq_some_iff.1 hl
   exact aA2 (h.snap s (List.mem_of_find?_eq_some hf))
 rcases vD hk with e|e|e|e|e|e|e|e|e|e|e|e|e
 all_goals(unfold dV;rw[e])
 ·exact aGe hb hs hc hl
 ·exact aGe hb hs hc hl
 ·exact aKn hb hs hc hl
 ·exact aMQ hb hs hc hsm
 ·exact aMR hb hs hc hl
 ·exact aHN hb hs hc hl
 ·exact aUA hb hs hc hsm
 ·exact aM1 hb hs
 ·exact aM3 hb hs
 ·exact aKu hb hs hc
 ·exact aM4 hb hs
 ·exact aM0 hb
 ·exact aKx hb hs hc (Nat.zero_le _) ⟨h.cap,by have:=h.nodes.len;simp only;omega⟩
theorem jA(f1 f2 f3 f4:Bool)(m:Mdl)(h:MI m)(c:Cal)(hc:CS c)(H:AHeap):cJ Tryz.prog 14 [cC f1 f2 f3 f4 m,gZ c] H (doV (doM m c)):=by
 refine aL Tryz.func14 rfl (Nat.le_of_ble_eq_true rfl) ?_
 have hck:=aJL c hc.path hc.to
 simp only[gZ]at hck
 unfold doM
 cases hk:chkC c with
 |false=>
  rw[hk]at hck
  rw[if_pos rfl]
  have ct0:=ct hck aBy;repeat' first|((first|refine gK ?_|refine gS ?_);simp only[go_sem,cC,iW,gZ])|refine gA ?_|(refine gD (fun h=>?_) (fun h=>?_)<;>try exact aA h)|fail
  exact done (by simp only[go_sem]) (aKy f1 f2 f3 f4 true true true m (errA 180) [])
 |true=>
  rw[hk]at hck
  rw[if_neg (by simp)]
  have ct0:=ct hck aBy;repeat' first|((first|refine gK ?_|refine gS ?_);simp only[go_sem,cC,iW,gZ])|refine gA ?_|fail
  refine rD rfl (fun h=>by cases h) (fun _=>?_)
  refine aFw ?_
  simp only[go_sem]
  have hm:=h
  obtain⟨X2,hX2⟩:∃X:List AV,X=[.sl f1 (m.log.entries.map fX),.sl f2 (m.log.nodes.map ndA),.int .i64 m.seen,.int .i64 m.rep,.sl f3 (m.snaps.map hU),.sl f4 (m.watches.map dL),.int .i64 m.next]:=⟨_,rfl⟩
  obtain⟨X4,hX4⟩:∃X:List AV,X=[.sl true [],.sl true [],.int .i64 0,.int .i64 0,.sl true [],.sl true [],.int .i64 0]:=⟨_,rfl⟩
  obtain⟨X5,hX5⟩:∃X:List AV,X=[.int .i64 0,.str [],.sl true [],.int .i64 0,.sl true []]:=⟨_,rfl⟩
  obtain⟨D0,hD0⟩:∃D:List AV,D=[.sl f1 (m.log.entries.map fX),.sl f2 (m.log.nodes.map ndA),.int .i64 m.seen,.int .i64 m.rep,.sl f3 (m.snaps.map hU),.sl f4 (m.watches.map dL),.int .i64 m.next,.int .i64 0,.str [],.sl true [],.int .i64 0,.sl true [],.int .i64 c.kind,.str c.path,.str c.to,.str c.data,.int .i64 c.n,.sl true []]:=⟨_,rfl⟩
  refine wN (ι:=Unit) (fun _=>[(2,.ref H.length 0 0),(3,.ref (H.length+1) 0 0),(4,.ref (H.length+2) 0 0),(5,.ref (H.length+3) 0 0),(6,.sl true []),(7,.ref (H.length+4) 0 0)])
   (fun _=>H++[.cells 0 X2,.cells 0 [.int .i64 c.kind,.str c.path,.str c.to,.str c.data,.int .i64 c.n],.cells 0 X4,.cells 0 X5,.cells 0 D0]) (fun _=>True) ?_ fun _ _=>?_
  ·rw[hX2,hX4,hX5,hD0]
   repeat' first|(refine gS ?_;simp only[go_sem])|refine gA ?_|(refine gD (fun h=>?_) (fun h=>?_)<;>try exact aA h)|fail
   exact⟨(),trivial⟩
  refine aAr (H.length+4) 17 7 (cs:=D0) (v:=0) (by simp only[go_sem]) (by rw[hD0];rfl) ?_
  refine yL (H.length+4) (dkC (H.length+5) c ⟨m,an0,[]⟩) (v:=0) (cs:=D0.set 17 (.osl 7 (H.length+5) 1 0 0 0)) (by simp only[go_sem]) (by rw[hD0];rfl) ?_ ?_
  ·rw[hD0]
   unfold dkC
   repeat' first|exact fL|refine aQ ?_ ?_|exact .refl _|exact .sl _ _
  simp only[go_sem]
  obtain⟨⟨kn,hka⟩,hcok⟩:=aWb hk
  have hkI:keysIn (.int .i64) aFr=True:=eq_true (by intro p hp;simp only[aFr,List.mem_cons,List.not_mem_nil,or_false]at hp;rcases hp with rfl|rfl|rfl|rfl|rfl|rfl|rfl|rfl|rfl|rfl|rfl|rfl|rfl<;>rfl)
  obtain⟨fid,hfid⟩:∃fid,aGl c.kind=fid:=⟨_,rfl⟩
  rw[hfid]at hka hcok
  obtain⟨C3,hC3⟩:∃C:List AV,C=[.int .i64 c.kind,.str c.path,.str c.to,.str c.data,.int .i64 c.n]:=⟨_,rfl⟩
  have hw:∀{i j:Nat} {G:AHeap},KB i j c ⟨m,an0,[]⟩ G→vH Tryz.prog fid i j c (dV c ⟨m,an0,[]⟩) G:=fun hb=>hfid▸aNa hm hc hk hb
  obtain⟨⟨e,d1⟩,hr⟩:∃r,dV c ⟨m,an0,[]⟩=r:=⟨_,rfl⟩
  rw[hr]at hw ⊢
  refine wN (ι:=Unit) (fun _=>[(2,.ref H.length 0 0),(3,.ref (H.length+1) 0 0),(4,.ref (H.length+2) 0 0),(5,.ref (H.length+3) 0 0),(6,.sl true []),(7,.ref (H.length+4) 0 0),(8,.func (.func fid) [] []),(9,.bool true)])
   (fun _=>H++[.cells 0 X2,.cells 0 C3,.cells 0 X4,.cells 0 X5,.cells 0 (dkC (H.length+5) c ⟨m,an0,[]⟩),.cells 1 [],.map aFr 13]) (fun _=>True) ?_ fun _ _=>?_
  ·repeat' first|((first|refine mx [4] qW ?_|refine mx [12] qX ?_|refine gS ?_);simp only[go_sem])|refine gA ?_|(refine gD (fun h=>?_) (fun h=>?_)<;>try exact aA h)|fail
   refine lC (aRa _) aGE ?_
   simp only[go_sem,hka,hkI]
   repeat' first|(refine gS ?_;simp only[go_sem,hka,hkI])|refine gA ?_|(refine gD (fun h=>?_) (fun h=>?_)<;>try exact aA h)|fail
   first|exact⟨(),trivial,⟨rfl,rfl,rfl,rfl,rfl,rfl,rfl,rfl⟩,by rw[hC3]⟩|(refine⟨(),?_⟩;rw[hC3];done)|(refine⟨(),?_⟩;rw[hC3];rfl)|fail "Z"
  repeat' first|(refine gS ?_;simp only[go_sem])|refine gA ?_|(refine gD (fun h=>?_) (fun h=>?_)<;>try exact aA h)|fail
  refine bE (hw (i:=H.length+4) (j:=H.length+5) ⟨by omega,by simp only[go_sem],by simp only[go_sem];rfl⟩) hcok ?_
  rintro v H' ⟨rfl,rfl⟩
  unfold nS
  simp only[go_sem]
  by_cases he:e=0
  ·subst he
   rw[if_pos rfl]
   have hmi:MI d1.m:=by
    have:=aJU hm hk (by rw[hr])
    rwa[hr]at this
   have hlen:(if d1.ops=[]then(d1.m,d1.a,[])else((uW m.log.nodes d1).m,d1.a,d1.ops))=if d1.ops=[]then(d1.m,d1.a,([]:List Opn))else((uW m.log.nodes d1).m,d1.a,d1.ops):=rfl
   by_cases ho:d1.ops=[]
   ·have hol:d1.ops.length=0:=by rw[ho];rfl
    rw[if_pos ho]
    repeat' first|((first|refine mx [4] qW ?_|refine mx [12] qX ?_|refine gS ?_);simp only[go_sem,hX2,hX4,hX5,dkC,hol,Int.reduceLT])|refine gA ?_|(refine gD (fun h=>?_) (fun h=>?_)<;>try exact aA h)|fail
    exact⟨_,doV (d1.m,d1.a,[]),rfl,aKz d1.m d1.a [] (by omega) (by simp only[go_sem];rw[ho]) rfl,rfl⟩
   ·have hol:decide ((0:Int)<(d1.ops.length:Int))=true:=decide_eq_true (by have:=List.length_pos_iff.2 ho;omega)
    rw[if_neg ho]
    repeat' first|((first|refine mx [4] qW ?_|refine mx [12] qX ?_|refine gS ?_);simp only[go_sem,hX2,hX4,hX5,dkC,hol])|refine gA ?_|(refine gD (fun h=>?_) (fun h=>?_)<;>try exact aA h)|fail
    refine bE (aM6 (i:=H.length+4) (j:=H.length+5) (c:=c) (d:=d1) ⟨by omega,by simp only[go_sem,dkC],by simp only[go_sem]⟩ (aN7 hmi) f2 m.log.nodes (aUE hm hmi)) aGF ?_
    rintro v H' ⟨rfl,rfl⟩
    unfold nS
    simp only[go_sem,dkC]
    repeat' first|((first|refine mx [4] qW ?_|refine mx [12] qX ?_|refine gS ?_);simp only[go_sem,hX2,hX4,hX5,dkC])|refine gA ?_|(refine gD (fun h=>?_) (fun h=>?_)<;>try exact aA h)|fail
    exact⟨_,doV ((uW m.log.nodes d1).m,d1.a,d1.ops),rfl,aKz (uW m.log.nodes d1).m d1.a d1.ops (by omega) (by simp only[go_sem];rfl) rfl,rfl⟩
  ·have hd:decide (e=0)=false:=decide_eq_false he
   rw[if_neg he]
   repeat' first|(refine gS ?_;simp only[go_sem,hd,hX2,hX4,hX5])|refine gA ?_|(refine gD (fun h=>?_) (fun h=>?_)<;>try exact aA h)|fail
   exact done (by simp only[go_sem]) (aKy f1 f2 f3 f4 true true true m (errA e) [])
end Go.Proofs.YthhdnjiodklmmaaGreatDoor

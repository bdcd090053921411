/- The texts 48 of 51 beneath the rows of this seat (joined by program): the abstract machine, and what the functions answer. No condition. -/
import Derived.Test.YthhdnjiodklmmaaGreatDoorWorkAR
import Derived.Test.YthhdnjiodklmmaaGreatDoorWorkBU
set_option linter.unusedSimpArgs false
set_option linter.unusedVariables false
set_option linter.unusedSectionVars false
/- model.All and Replay: what they answer. No condition but what is known of a replica. -/
namespace Go.Gw
open Go Go.Aw Go.Proofs.YthhdnjiodklmmaaGreatDoor
abbrev anF:Ans→AV:=iD false false
theorem aNb(x:Ans):Pur (anF x):=.agg _ fun y hy=>by
 simp only[List.mem_cons,List.not_mem_nil,or_false]at hy
 rcases hy with rfl|rfl|rfl|rfl|rfl
 ·exact .int _ _
 ·exact .str _
 ·exact .sl _ _ fun x hx=>by(obtain⟨y, -,rfl⟩:=List.mem_map.1 hx;exact .str _)
 ·exact .int _ _
 ·exact .sl _ _ fun x hx=>by(obtain⟨y, -,rfl⟩:=List.mem_map.1 hx;simp only[gF,go_sem])
theorem aHQ(m:Mdl)(c:Cal)(l:List Cal):nP m (c::l)=((nP (doM m c).1 l).1,(doM m c).2.1::(nP (doM m c).1 l).2):=rfl
end Go.Gw
namespace Go.Proofs.YthhdnjiodklmmaaGreatDoor
open Go Go.Aw Go.Gw
set_option linter.unusedSimpArgs false
set_option linter.unusedVariables false
set_option maxRecDepth 20000
set_option maxHeartbeats 4000000
theorem qY(f1 f2 f3 f4 b:Bool)(m:Mdl)(h:MI m)(l:List Cal)(hl:l.length≤1000)(hc:∀c∈l,CS c)(H:AHeap):
  cJ Tryz.prog 16 [cC f1 f2 f3 f4 m,.sl b (l.map gZ)] H (.tup [cC false false false false (nP m l).1,.sl false ((nP m l).2.map (iD false false))]):=by
 refine aL Tryz.func16 rfl (Nat.le_of_ble_eq_true rfl) ?_
 have hl8:(l.length * 80≤140737488355328)=True:=eq_true (by omega)
 repeat' first|(refine gS ?_;simp only[go_sem,cC,iW,hl8])|refine gA ?_|(refine gD (fun h=>?_) (fun h=>?_)<;>try exact aA h)|fail
 refine yL H.length (cC false false false false m).cells (v:=0) (cs:=(cC f1 f2 f3 f4 m).cells) (by simp only[go_sem];rfl) rfl (aQ (.sl _ _) (aQ (.sl _ _) (aQ (.refl _) (aQ (.refl _) (aQ (.sl _ _) (aQ (.sl _ _) (aQ (.refl _) fL))))))) ?_
 simp only[go_sem]
 obtain⟨Z,hZ⟩:∃Z,Z=List.flatMap AV.cells (List.replicate l.length (AV.agg [.int .i64 0,.str [],.sl true [],.int .i64 0,.sl true []])):=⟨_,rfl⟩
 have hZl:Z.length=l.length * 5:=by
  rw[hZ]
  induction l.length with
  |zero=>rfl
  |succ n ih=>rw[List.replicate_succ,List.flatMap_cons,List.length_append,ih];simp[AV.cells];omega
 rw[←hZ]
 obtain⟨B4,hB4⟩:∃B:List AV,B=[.sl true [],.sl true [],.int .i64 0,.int .i64 0,.sl true [],.sl true [],.int .i64 0]:=⟨_,rfl⟩
 rw[←hB4]
 obtain⟨R,hR⟩:∃R,R=nP m l:=⟨_,rfl⟩
 rw[←hR]
 refine aP (ι:=Nat×Mdl×List Ans×AHeap) (fun s=>[(2,.ref H.length 0 0),(4,.ref (H.length+1) 0 0),(6,.osl 5 (H.length+2) 1 0 s.1 l.length),(13,.sl b (l.map gZ)),(14,.int .i64 l.length),(15,.int .i64 s.1)])
  (fun s=>H++(.cells 0 (cC false false false false s.2.1).cells::.cells 0 B4::.cells 1 (flA anF s.2.2.1++Z.drop (s.1 * 5))::s.2.2.2))
  (fun s=>s.1≤l.length∧s.2.2.1.length=s.1∧MI s.2.1∧R=((nP s.2.1 (l.drop s.1)).1,s.2.2.1++(nP s.2.1 (l.drop s.1)).2)) (fun s=>l.length-s.1) (0,m,[],[]) ⟨Nat.zero_le _,rfl,h,by simp[hR]⟩ ?_ ?_ ?_
 ·simp[go_sem]
 ·simp[uY]
 rintro⟨k,mk,an,M⟩ ⟨hk,hal,hmi,hr⟩
 simp only at hk hal hmi hr ⊢
 obtain⟨G,hG⟩:∃G,H++(.cells 0 (cC false false false false mk).cells::.cells 0 B4::.cells 1 (flA anF an++Z.drop (k * 5))::M)=G:=⟨_,rfl⟩
 rw[hG]
 have g0:hget G H.length=.cells 0 (cC false false false false mk).cells:=by rw[←hG];simp only[go_sem]
 have g2:hget G (H.length+2)=.cells 1 (flA anF an++Z.drop (k * 5)):=by rw[←hG];simp only[go_sem]
 have gs:∀X Y,aD (aD G (H.length+2) Y) H.length X=H++(X::.cells 0 B4::Y::M):=fun X Y=>by rw[←hG];simp only[go_sem]
 have g1:∀L,aD (G++L) (H.length+1)=aD (G++L) (H.length+1):=fun L=>rfl
 have r0:=g0;have r1:=aT g0 trivial;have r2:=aT g2 trivial;have hl1:=bI g0 trivial;have hl2:=bI g2 trivial;have r3:=fun X L=>aH (bB g2 (show ¬H.length=H.length+2 by omega) X) trivial L;have r4:=fun X=>bB g2 (show ¬H.length=H.length+2 by omega) X;have hnl:=aC G (H.length);have qs:=lE hl1 hl2 (show H.length<H.length+2 by omega) rfl
 have hfl:=eR (enc:=anF) (s:=5) (fun _=>rfl) an
 rw[hal]at hfl
 by_cases hlt:k<l.length
 ·have hgd:=bA gZ hlt
  have hdr:=List.drop_eq_getElem_cons hlt
  rw[hdr,aHQ]at hr
  have hcs:=hc _ (List.getElem_mem hlt)
  obtain⟨c,hcc⟩:∃c,c=l[k]:=⟨_,rfl⟩
  rw[←hcc]at hgd hr hcs
  have hdo:=jA false false false false mk hmi c hcs
  have hmi2:=nH hmi c
  obtain⟨⟨m2,a2,o2⟩,hr2⟩:∃r,doM mk c=r:=⟨_,rfl⟩
  rw[hr2]at hdo hr hmi2
  simp only[doV,cC,iW,gZ,iD]at hdo
  simp only[gZ]at hgd
  have hli:decide ((k:Int)<(l.length:Int))=true:=decide_eq_true (by omega)
  have hw:=bD hlt (by omega)
  have hkn:(k=l.length)=False:=eq_false (by omega)
  have hsp:cR (flA anF an++Z.drop (k * 5)) (k * 5) (anF a2).cells=flA anF (an++[a2])++Z.drop ((k+1) * 5):=by
   rw[fD hfl,fN,gW,uY,List.drop_drop,List.append_nil,List.append_assoc]
   congr 3
   show k * 5+5=_
   omega
  simp only[iD,AV.cells]at hsp
  have hzl:(flA anF an++Z.drop (k * 5)).length=l.length * 5:=by rw[List.length_append,List.length_drop,hfl,hZl];omega
  have hq1:(∀e,e=AV.agg [.int .i64 a2.err,.str a2.data,.sl false (a2.names.map AV.str),.int .i64 a2.n,.sl false (a2.events.map gF)]→e.cells.length=5)=True:=eq_true (fun e he=>by rw[he];rfl)
  have ct0:=ct hdo aN;repeat' first|((first|refine gK ?_|refine gS ?_);simp only[go_sem,r0,r1,r2,r3,r4,hnl,qs,aC,cC,iW,hgd,hli,hlt,hkn,hsp,hzl,hq1])|refine gA ?_|(refine gD (fun h=>?_) (fun h=>?_)<;>try exact aA h)|fail
  refine⟨(k+1,m2,an++[a2],M++[.cells 0 (gZ c).cells,.cells 0 (anF a2).cells]),⟨hlt,by simp[hal],hmi2,by rw[hr];simp⟩,by simp only;omega,⟨rfl,congrArg _ hw⟩,?_⟩
  rw[gs]
  simp[iD,gZ,AV.cells]
 ·have hke:k=l.length:=by omega
  have hli:decide ((k:Int)<(l.length:Int))=false:=decide_eq_false (by omega)
  rw[hke,List.drop_length]at hr
  simp only[nP,List.append_nil]at hr
  have hZ0:Z.drop (k * 5)=[]:=by rw[hke,←hZl,List.drop_length]
  rw[hZ0,List.append_nil]at hG
  rw[←hG]
  repeat' first|(refine gS ?_;simp only[go_sem,cC,iW,hli,hB4])|refine gA ?_|(refine gD (fun h=>?_) (fun h=>?_)<;>try exact aA h)|fail
  rw[hr]
  exact⟨_,.tup [cC false false false false mk,.sl false (an.map anF)],rfl,.tup _ _ rfl (dW (.cl _ ((Pur.cl (x:=cC false false false false mk) (by simp only[go_sem])) _)) (dW (pJ (enc:=anF) (D:=an) (by omega) (by simp only[go_sem]) hal (fun _=>rfl) aNb) gQ)),rfl⟩
theorem xA(f1 f2 f3 f4 b:Bool)(m:Mdl)(ops:List Opn)(hf:Fit m.log ops.length)(hl:ops.length≤100000)(ho:∀o∈ops,OpS o)(H:AHeap):
  cJ Tryz.prog 26 [cC f1 f2 f3 f4 m,.sl b (ops.map opA)] H (cC false false false false (fO m ops)):=by
 refine aL Tryz.func26 rfl (Nat.le_of_ble_eq_true rfl) ?_
 have hm:=aQt f1 f2 b m.log ops hf ho
 simp only[zW,aER,lgA]at hm
 have ct0:=ct hm aGJ;repeat' first|((first|refine gK ?_|refine gS ?_);simp only[go_sem,cC,iW])|refine gA ?_|(refine gD (fun h=>?_) (fun h=>?_)<;>try exact aA h)|fail
 refine yL H.length (.sl false ((dO m.log ops).entries.map fX)::.sl false ((dO m.log ops).nodes.map ndA)::.int .i64 m.seen::.int .i64 m.rep::.sl false (m.snaps.map hU)::.sl false (m.watches.map dL)::[.int .i64 m.next]) (v:=0)
  (cs:=.sl false ((dO m.log ops).entries.map fX)::.sl false ((dO m.log ops).nodes.map ndA)::.int .i64 m.seen::.int .i64 m.rep::.sl f3 (m.snaps.map hU)::.sl f4 (m.watches.map dL)::[.int .i64 m.next]) (by simp only[go_sem]) rfl (aQ (.refl _) (aQ (.refl _) (aQ (.refl _) (aQ (.refl _) (aQ (.sl _ _) (aQ (.sl _ _) (aQ (.refl _) fL))))))) ?_
 simp only[go_sem]
 obtain⟨B4,hB4⟩:∃B:List AV,B=[.sl true [],.sl true [],.int .i64 0,.int .i64 0,.sl true [],.sl true [],.int .i64 0]:=⟨_,rfl⟩
 rw[←hB4]
 obtain⟨g,hg⟩:∃g,g=dO m.log ops:=⟨_,rfl⟩
 rw[←hg]
 obtain⟨R,hR⟩:∃R,R=fO m ops:=⟨_,rfl⟩
 rw[←hR]
 obtain⟨ss,hss⟩:∃ss,ss=ops.foldl (fun n o=>if opOk o=true then eV n o.at_ else n) m.seen:=⟨_,rfl⟩
 have hR2:R={m with log:=g,seen:=ss}:=by rw[hR,hg,hss];rfl
 refine aP (ι:=Nat×Int×AHeap) (fun s=>[(2,.ref H.length 0 0),(4,.ref (H.length+1) 0 0),(15,.sl b (ops.map opA)),(16,.int .i64 ops.length),(17,.int .i64 s.1)])
  (fun s=>H++(.cells 0 (cC false false false false {m with log:=g,seen:=s.2.1}).cells::.cells 0 B4::s.2.2))
  (fun s=>s.1≤ops.length∧ss=(ops.drop s.1).foldl (fun n o=>if opOk o=true then eV n o.at_ else n) s.2.1) (fun s=>ops.length-s.1) (0,m.seen,[]) ⟨Nat.zero_le _,by simp[hss]⟩ ?_ ?_ ?_
 ·simp[go_sem]
 ·simp[cC,iW,AV.cells]
 rintro⟨k,s,M⟩ ⟨hk,hs⟩
 simp only at hk hs ⊢
 obtain⟨G,hG⟩:∃G,H++(.cells 0 (cC false false false false {m with log:=g,seen:=s}).cells::.cells 0 B4::M)=G:=⟨_,rfl⟩
 by_cases hlt:k<ops.length
 ·rw[hG]
  have g0:hget G H.length=.cells 0 (cC false false false false {m with log:=g,seen:=s}).cells:=by rw[←hG];simp only[go_sem]
  have g1:=aT g0 trivial
  have g2:=fM g0 trivial
  have gs:∀X,aD G H.length X=H++(X::.cells 0 B4::M):=fun X=>by rw[←hG];simp only[go_sem]
  have hgd:=bA opA hlt
  have hdr:=List.drop_eq_getElem_cons hlt
  rw[hdr,List.foldl_cons]at hs
  have hos:=ho _ (List.getElem_mem hlt)
  obtain⟨o,hoo⟩:∃o,o=ops[k]:=⟨_,rfl⟩
  rw[←hoo]at hgd hs hos
  have hok:=wI o hos
  have hse:=aFZ s o.at_ true
  simp only[opA]at hgd hok
  have hli:decide ((k:Int)<(ops.length:Int))=true:=decide_eq_true (by omega)
  have hw:=bD hlt (by omega)
  cases hO:opOk o with
  |true=>
   rw[hO]at hok
   rw[hO,if_pos rfl]at hs
   have ct0:=ct hok cS;have ct1:=ct hse nW;repeat' first|((first|refine gK ?_|refine gS ?_);simp only[go_sem,g0,g1,g2,cC,iW,hgd,hli,hlt])|refine gA ?_|(refine gD (fun h=>?_) (fun h=>?_)<;>try exact aA h)|fail
   exact⟨(k+1,eV s o.at_,M++[.cells 0 (opA o).cells]),⟨hlt,hs⟩,by simp only;omega,congrArg _ hw,by rw[gs];simp[opA,AV.cells]⟩
  |false=>
   rw[hO]at hok
   rw[hO,if_neg (by simp)]at hs
   have ct0:=ct hok cS;have ct1:=ct hse nW;repeat' first|((first|refine gK ?_|refine gS ?_);simp only[go_sem,g0,g1,g2,cC,iW,hgd,hli,hlt])|refine gA ?_|(refine gD (fun h=>?_) (fun h=>?_)<;>try exact aA h)|fail
   exact⟨(k+1,s,M++[.cells 0 (opA o).cells]),⟨hlt,hs⟩,by simp only;omega,congrArg _ hw,by rw[←hG];simp[opA,cC,iW,AV.cells]⟩
 ·have hke:k=ops.length:=by omega
  have hli:decide ((k:Int)<(ops.length:Int))=false:=decide_eq_false (by omega)
  rw[hke,List.drop_length]at hs
  repeat' first|(refine gS ?_;simp only[go_sem,cC,iW,hli,hB4])|refine gA ?_|(refine gD (fun h=>?_) (fun h=>?_)<;>try exact aA h)|fail
  rw[hR2]
  exact done (by simp only[go_sem]) (.of (by rw[hs];rfl))
end Go.Proofs.YthhdnjiodklmmaaGreatDoor

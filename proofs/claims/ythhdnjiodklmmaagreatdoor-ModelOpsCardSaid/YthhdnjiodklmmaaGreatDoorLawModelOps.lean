/- The row of ModelOps: the walk's contract, put into the row's own words. No condition. -/
import Derived.Test.YthhdnjiodklmmaaGreatDoorWorkAE
import Derived.Test.YthhdnjiodklmmaaGreatDoorWorkAF
import Derived.Test.YthhdnjiodklmmaaGreatDoorWorkAU
import Derived.Test.YthhdnjiodklmmaaGreatDoorWorkBB
import Derived.Test.YthhdnjiodklmmaaGreatDoorWorkBX
import Derived.Test.YthhdnjiodklmmaaGreatDoorRows
import Derived.Test.YthhdnjiodklmmaaGreatDoorCards
import Derived.Test.YthhdnjiodklmmaaGreatDoorTie
import Derived.LaidMore
import Derived.Lay
import Derived.SevenTiedAt
set_option linter.unusedSimpArgs false
set_option linter.unusedVariables false
set_option linter.unusedSectionVars false
namespace Go.Proofs.YthhdnjiodklmmaaGreatDoor
open Go Go.Aw Go.Gw
set_option linter.unusedSimpArgs false
set_option linter.unusedVariables false
set_option maxRecDepth 20000
set_option maxHeartbeats 4000000
theorem aKD(l:List Opn):((l.map opA).flatMap AV.cells).all AV.one=true:=by
 induction l with
 |nil=>rfl
 |cons x l ih=>rw[List.map_cons,List.flatMap_cons,List.all_append,ih];rfl
theorem aKE(w:Int)(b:Bool)(l:List Cal)(f:Int)(H:AHeap):cJ Tryz.prog 9 [.int .u8 w,.sl b (l.map gZ),.int .u8 f] H (.bool true):=by
 refine aFC fun hok1 _ hok3=>?_
 have hw:=aIA hok1
 have hf:=aIA hok3
 refine aL Tryz.func9 rfl (Nat.le_of_ble_eq_true rfl) ?_
 obtain⟨u,rfl⟩:∃u:Nat,w=(u:Int):=⟨w.toNat,by omega⟩
 obtain⟨fr,rfl⟩:∃u:Nat,f=(u:Int):=⟨f.toNat,by omega⟩
 have hfew:=kZ b l 30
 have hnw1:=mR ((u % 64:Nat):Int)
 have hnw2:=mR 5
 have hnew1:oI ((u % 64:Nat):Int)=({md0 with rep:=((u % 64:Nat):Int),next:=1},0):=by unfold oI;rw[if_pos (by omega)]
 obtain⟨m0,hm0⟩:∃m0,({md0 with rep:=((u % 64:Nat):Int),next:=1}:Mdl)=m0:=⟨_,rfl⟩
 obtain⟨n0,hn0⟩:∃m0,({md0 with rep:=5,next:=1}:Mdl)=m0:=⟨_,rfl⟩
 have hnew2:oI 5=(n0,0):=by rw[←hn0];rfl
 rw[hm0]at hnew1
 have hmi0:=nQ hnew1
 have hni0:=nQ hnew2
 have hoi0:=aE9 hnew1
 have hnl:n0.log=⟨[],[]⟩:=by rw[←hn0];rfl
 have hns:n0.seen=0:=by rw[←hn0];rfl
 rw[hnew1]at hnw1
 rw[hnew2]at hnw2
 simp only[cC,iW]at hnw1 hnw2
 have hrem:IntKind.i64.wrap ((u:Int).tmod 64)=((u % 64:Nat):Int):=by rw[Int.tmod_eq_emod_of_nonneg (by omega),wrap_i64 (by omega) (by omega)];omega
 cases hfe:iX l 30 with
 |false=>
  rw[hfe]at hfew
  have ct0:=ct bU bT;have ct1:=ct hnw1 bH;have ct2:=ct hnw2 bH;have ct3:=ct hfew bF;repeat' first|((first|refine gK ?_|refine gS ?_);simp only[go_sem,hrem])|refine gA ?_|(refine gD (fun h=>?_) (fun h=>?_)<;>try exact aA h)|fail
  exact done (by simp only[go_sem]) (.refl _)
 |true=>
 rw[hfe]at hfew
 obtain⟨hcs,hl30⟩:=nR hfe
 have ct0:=ct bU bT;have ct1:=ct hnw1 bH;have ct2:=ct hnw2 bH;have ct3:=ct hfew bF;repeat' first|((first|refine gK ?_|refine gS ?_);simp only[go_sem,hrem])|refine gA ?_|(refine gD (fun h=>?_) (fun h=>?_)<;>try exact aA h)|fail
 refine oP 12 7 rfl ?_
 simp only[go_sem]
 refine aP (ι:=Nat×Mdl×List Opn×AHeap) (fun s=>[(1,.sl b (l.map gZ)),(2,.int .u8 fr),(7,.bool true),(8,.ref H.length 0 0),(10,.ref (H.length+1) 0 0),(12,.osl 7 (H.length+2) (s.1+1) 0 s.2.2.1.length s.2.2.1.length),(13,.int .i64 s.1)])
  (fun s=>H++(.cells 0 (cC false false false false s.2.1).cells::.cells 0 (cC false false false false n0).cells::.cells (s.1+1) (flA opA s.2.2.1)::s.2.2.2)) (fun s=>s.1≤l.length∧MI s.2.1∧OI s.2.1 s.2.2.1) (fun s=>l.length-s.1) (0,m0,[],[]) ⟨Nat.zero_le _,hmi0,hoi0⟩ ?_ rfl ?_
 ·simp[go_sem]
 rintro⟨q,m,ops,M⟩ ⟨hq,hmi,hoi⟩
 simp only at hq hmi hoi ⊢
 have hol:ops.length≤200:=by have:=hoi.len;have:=hmi.cap;omega
 by_cases hlt:q<l.length
 ·obtain⟨G,hG⟩:∃G,H++(.cells 0 (cC false false false false m).cells::.cells 0 (cC false false false false n0).cells::.cells (q+1) (flA opA ops)::M)=G:=⟨_,rfl⟩
  rw[hG]
  have g0:hget G H.length=.cells 0 (cC false false false false m).cells:=by rw[←hG];simp only[go_sem]
  have g4:hget G (H.length+2)=.cells (q+1) (flA opA ops):=by rw[←hG];simp only[go_sem]
  have g1:=aT g0 trivial
  have g6:=aT g4 trivial
  have g7:=fM g4 trivial
  have hgd:=bA gZ hlt
  have hcc:=hcs _ (List.getElem_mem hlt)
  obtain⟨c,hce⟩:∃c,c=l[q]:=⟨_,rfl⟩
  rw[←hce]at hgd hcc
  simp only[gZ]at hgd
  have hli:decide ((q:Int)<(l.length:Int))=true:=decide_eq_true (by omega)
  have hk0:((0:Int)≤(q:Int))=True:=eq_true (by omega)
  have hki:((q:Int)<(l.length:Int))=True:=eq_true (by omega)
  have hw':IntKind.i64.wrap ((q:Int)+1)=((q+1:Nat):Int):=bD hlt (by omega)
  have hdo:=jA false false false false m hmi c hcc
  have hmi3:=nH hmi c
  have hoi3:=aN2 hmi hoi c
  obtain⟨⟨y,a,o⟩,hr⟩:∃r,doM m c=r:=⟨_,rfl⟩
  rw[hr]at hdo hmi3 hoi3
  simp only at hmi3 hoi3
  have hol3:(ops++o).length≤200:=by have:=hoi3.len;have:=hmi3.cap;omega
  simp only[doV,cC,iW,gZ,iD]at hdo
  obtain⟨G1,hG1⟩:∃G1,aD G (H.length+2) (.cells (q+2) (flA opA (ops++o)))=G1:=⟨_,rfl⟩
  have e1:H++(.cells 0 (cC false false false false m).cells::.cells 0 (cC false false false false n0).cells::.cells (q+2) (flA opA (ops++o))::M)=G1:=by rw[←hG1,←hG];simp only[go_sem]
  have hgl:G.length=G1.length:=by rw[←hG1,aC]
  have q0:∀a L,hget (G1++a::L) G.length=a:=fun a L=>by rw[hgl];simp[hget]
  have p1:hget G1 H.length=.cells 0 (cC false false false false m).cells:=by rw[←e1];simp only[go_sem]
  have p2:=aT p1 trivial
  have p3:=fM p1 trivial
  have gs:∀Y,aD G1 H.length Y=H++(Y::.cells 0 (cC false false false false n0).cells::.cells (q+2) (flA opA (ops++o))::M):=fun Y=>by rw[←e1];simp only[go_sem]
  have hap:flA opA ops++List.flatMap AV.cells (List.map opA o)=flA opA (ops++o):=(fN ..).symm
  have hfl:(flA opA ops).length=ops.length * 7:=qJ ops
  repeat' first|((first|refine aV (hdo _) aN ?_|refine aW (hdo _) aN ?_|refine aX (fun _=>hdo _) aN ?_|refine cE (id:=10) [.pure 3,.free,.free,.pure 3,.pure 3,.pure 3,.free,.free,.free,.free] [.eff [],.eff [],.free] 10 31 39 14 15 jU rfl (by kernel_rfl) (by kernel_rfl) (by kernel_rfl) (by kernel_rfl) ?_|refine gS ?_);simp only[go_sem,cC,iW,iD,hap,hfl,q0,hG1,g0,g1,g4,g6,g7,p1,p2,p3,hgd,hli,hlt,hki,hk0])|((with_reducible refine And.intro ?_ ?_);focus (exact aK (hdo _) aN))|((with_reducible refine And.intro (And.intro ?_ ?_) ?_);focus (exact aK (hdo _) aN))|(exact aK (hdo _) aN)|refine gA ?_|(refine gD (fun h=>?_) (fun h=>?_)<;>try exact aA h)|fail
  refine⟨⟨qI _,by rw[List.length_append]at hol3;omega,aKD _⟩,?_⟩
  repeat' first|(refine gS ?_;simp only[go_sem,cC,iW,iD,hap,hfl,q0,hG1,g0,g1,g4,g6,g7,p1,p2,p3])|refine gA ?_|(refine gD (fun h=>?_) (fun h=>?_)<;>try exact aA h)|fail
  exact⟨(q+1,y,ops++o,M++[.cells 2 (cC false false false false y).cells,.cells 2 (iD false false a).cells]),⟨hlt,hmi3,hoi3⟩,by simp only;omega,⟨by simp only[List.length_append],congrArg _ hw'⟩,by rw[gs];simp[cC,iW,iD,AV.cells]⟩
 ·have hqe:q=l.length:=by omega
  subst hqe
  have hli:decide ((l.length:Int)<(l.length:Int))=false:=by simp
  refine vV [12] (ops.map opA) (v:=l.length+1) (lc:=ops.length) (i:=H.length+2) (s:=7) (cs:=flA opA ops) (by intro t ht;simp only[List.mem_singleton]at ht;subst ht;rw[List.length_map];simp only[go_sem]) (by simp only[go_sem]) (by omega) rfl (qI _) ?_
  simp only[go_sem]
  repeat' first|(refine gS ?_;simp only[go_sem,hli])|refine gA ?_|(refine gD (fun h=>?_) (fun h=>?_)<;>try exact aA h)|fail
  obtain⟨G,hG⟩:∃G,H++(.cells 0 (cC false false false false m).cells::.cells 0 (cC false false false false n0).cells::.gone::M)=G:=⟨_,rfl⟩
  rw[hG]
  refine oP 17 7 rfl ?_
  refine aP (ι:=Nat×AHeap) (fun s=>[(2,.int .u8 fr),(7,.bool true),(8,.ref H.length 0 0),(10,.ref (H.length+1) 0 0),(12,.sl false (ops.map opA)),(17,.osl 7 G.length (s.1+1) 0 s.1 s.1),(18,.int .i64 s.1)])
   (fun s=>G++(.cells (s.1+1) (flA opA (pP ops fr s.1))::s.2)) (fun s=>s.1≤ops.length) (fun s=>ops.length-s.1) (0,[]) (Nat.zero_le _) ?_ rfl ?_
  ·simp[go_sem]
  rintro⟨j,M2⟩ hj
  simp only at hj ⊢
  by_cases hlt2:j<ops.length
  ·have hmod:(j+fr) % ops.length<ops.length:=Nat.mod_lt _ (by omega)
   have hpm:=bA opA hmod
   have ew:(IntKind.i64.wrap ((j:Int)+IntKind.i64.wrap (fr:Int))).tmod (ops.length:Int)=(((j+fr) % ops.length:Nat):Int):=by
    rw[wrap_i64 (n:=(fr:Int)) (by omega) (by omega),wrap_i64 (by omega) (by omega),Int.tmod_eq_emod_of_nonneg (by omega)];push_cast;rfl
   have hz:decide ((ops.length:Int)=0)=false:=decide_eq_false (by omega)
   have hmi':decide ((((j+fr) % ops.length:Nat):Int)<(ops.length:Int))=true:=decide_eq_true (by omega)
   have hli:decide ((j:Int)<(ops.length:Int))=true:=decide_eq_true (by omega)
   have hfl:=qJ (pP ops fr j)
   rw[mO]at hfl
   have hfl':(flA opA (pP ops fr j)).length=j * 7:=hfl
   repeat' first|(refine gS ?_;simp only[go_sem,hli,hpm,ew,hz,hmi',opA,hfl'])|refine gA ?_|(refine gD (fun h=>?_) (fun h=>?_)<;>try exact aA h)|fail
   refine⟨⟨fun e he=>by rw[he];rfl,by omega⟩,?_⟩
   repeat' first|(refine gS ?_;simp only[go_sem,hli])|refine gA ?_|(refine gD (fun h=>?_) (fun h=>?_)<;>try exact aA h)|fail
   have hts:flA opA (pP ops fr (j+1))=flA opA (pP ops fr j)++lO ops[(j+fr) % ops.length]:=by
    rw[aHF,List.getD_eq_getElem?_getD,List.getElem?_eq_getElem hmod,fN];simp[flA,lO,opA,AV.cells]
   exact⟨(j+1,M2),hlt2,by simp only;omega,⟨rfl,congrArg _ (bD hlt2 (by omega))⟩,by rw[hts];rfl⟩
  ·have hje:j=ops.length:=by omega
   subst hje
   have hli:decide ((ops.length:Int)<(ops.length:Int))=false:=by simp
   obtain⟨hr1,hr2⟩:=aHq hmi hoi hni0 hnl hns (aB0 ops fr)
   have hrp:=xA false false false false false n0 (pP ops fr ops.length) ⟨fun e he=>(by rw[hnl]at he;cases he),by rw[hnl];simp,by have:=hni0.nodes.len;rw[mO];omega⟩ (by rw[mO];omega) (fun o ho=>aAO (hoi.ok hmi o ((aB0 ops fr).mem_iff.1 ho)))
   obtain⟨n1,hn1⟩:∃n1,fO n0 (pP ops fr ops.length)=n1:=⟨_,rfl⟩
   rw[hn1]at hr1 hr2 hrp
   have hs:=aCk false false false false n1.log m.log
   rw[decide_eq_true hr1]at hs
   have ds:decide (n1.seen=m.seen)=true:=decide_eq_true hr2
   have hln:decide ((ops.length:Int)=(m.log.entries.length:Int))=true:=decide_eq_true (by rw[hoi.len])
   simp only[cC,iW,zW]at hrp hs
   have g0:hget G H.length=.cells 0 (cC false false false false m).cells:=by rw[←hG];simp only[go_sem]
   have g1:hget G (H.length+1)=.cells 0 (cC false false false false n0).cells:=by rw[←hG];simp only[go_sem]
   refine vV [17] ((pP ops fr ops.length).map opA) (v:=ops.length+1) (lc:=ops.length) (i:=G.length) (s:=7) (cs:=flA opA (pP ops fr ops.length)) (by intro t ht;simp only[List.mem_singleton]at ht;subst ht;rw[List.length_map,mO];simp only[go_sem]) (by simp only[go_sem]) (by omega) rfl (qI _) ?_
   simp only[go_sem]
   have g2:=aT g0 trivial
   have g3:=aT g1 trivial
   have g4:=fM g1 trivial
   obtain⟨G1,hG1⟩:∃G1,aD G (H.length+1) (.cells 0 (cC false false false false n1).cells)=G1:=⟨_,rfl⟩
   have e1:H++(.cells 0 (cC false false false false m).cells::.cells 0 (cC false false false false n1).cells::.gone::M)=G1:=by rw[←hG1,←hG];simp only[go_sem]
   have p0:hget G1 H.length=.cells 0 (cC false false false false m).cells:=by rw[←e1];simp only[go_sem]
   have p1:hget G1 (H.length+1)=.cells 0 (cC false false false false n1).cells:=by rw[←e1];simp only[go_sem]
   have p2:=aT p0 trivial
   have p3:=aT p1 trivial
   simp only[cC,iW,AV.cells]at hG1
   have ct0:=ct hrp eZ;have ct1:=ct hs wB;repeat' first|((first|refine gK ?_|refine gS ?_);simp only[go_sem,hli,hG1,p0,p1,p2,p3,g0,g1,g2,g3,g4,ds,hln,cC,iW])|refine gA ?_|(refine gD (fun h=>?_) (fun h=>?_)<;>try exact aA h)|fail
   exact sI (by rw[←e1,List.append_assoc]) (by simp only[go_sem]) (.refl _)
open Go Go.Aw Go.ChangeShapes Go.WideShapes Go.ChangeAt Go.RowKit
set_option maxRecDepth 100000 in
theorem aA6(os:Os)(started:os.Started)(H:Type)(enc:TypeId×Value→H):
  ReturnsInHanded {} Tryz.checked os 9 .any (fun w args=>(Rows.modelOpsSpec.pre enc Tryz.prog Tryz.f9 Rows.modelOpsRow.domain false w args∧laidMetH Tryz.prog Rows.modelOpsRow.laid w)∧sizedMet enc Tryz.prog Tryz.f9 (OpenSpec.ofChange Rows.modelOpsSpec) false w args) (Rows.modelOpsSpec.post enc Tryz.prog Tryz.f9 false true false false):=by
 refine returnsInHanded_of_change_and (C:=Tryz.checked) (X:=fun w _=>laidMetH Tryz.prog Rows.modelOpsRow.laid w) (fun _ _ _ hh h=>h.of_heap hh) own started (by kernel_rfl) Tryz.func9
  (ChangeSpec.witness_shaped (enc:=enc) (C:=Tryz.checked) (os:=os) (X:=fun w _=>laidMetH Tryz.prog Rows.modelOpsRow.laid w) false (World.laidAll Tryz.prog os Rows.modelOpsRow.laid) #[.int .u8 0,.slice none 0 0,.int .u8 0] 8 (World.laidAll_os _ _ _)
   (World.shaped_of_ZipB (by kernel_rfl) (by kernel_rfl)) (by kernel_rfl) (by kernel_rfl) (by kernel_rfl)
   (by rw[MakeChecks.laidMetH_plain _ _ _ (by kernel_rfl)];exact laidMet_laidAll _ (by kernel_rfl) (by kernel_rfl))) ?_
 intro W base args ds gs before hval0 hW hcnd _ hL _
 have hval:∀(j:Nat) t v,Tryz.f9.params[j]?=some t→args[j]?=some v→Value.okWide Tryz.prog W .any base t v:=hval0
 have hW':=hW
 obtain⟨p,q,hA0,hV,rfl,hfz,hnd⟩:=hW
 have hA:DataW.TrodAll enc Tryz.prog W 0 (fun _=>true) true Tryz.f9.params.toList args.toList ds p:=hA0
 rw[Tryz.params9]at hA hval
 obtain⟨v0,vs0,d0,ds0,p0,q0,hargs,rfl,rfl,h0,r0⟩:=trodAll_cons hA
 obtain⟨v1,vs1,d1,ds1,p1,q1,rfl,rfl,rfl,h1,r1⟩:=trodAll_cons r0
 obtain⟨v2,vs2,d2,ds2,p2,q2,rfl,rfl,rfl,h2,r2⟩:=trodAll_cons r1
 obtain⟨rfl,rfl,rfl⟩:=trodAll_nil r2
 obtain rfl:args= #[v0,v1,v2]:=by cases args;simp_all
 obtain⟨rfl,rfl⟩:=trodVars_none hV
 have lt0:∀x∈p0,x.block<W.heap.size:=by obtain⟨m,hm⟩:=h0;exact DataW.trod_lt m _ _ _ hm
 obtain⟨x0,s0,w0⟩:=dZ (by kernel_rfl) (hval 0 5 v0 rfl rfl) h0
 obtain⟨n0,rfl⟩:=aIP s0
 have lt1:∀x∈p1,x.block<W.heap.size:=by obtain⟨m,hm⟩:=h1;exact DataW.trod_lt m _ _ _ hm
 obtain⟨x1,s1,w1⟩:=dZ (by kernel_rfl) (hval 1 22 v1 rfl rfl) h1
 obtain⟨l1,rfl,ll1⟩:=iZ s1
 have lt2:∀x∈p2,x.block<W.heap.size:=by obtain⟨m,hm⟩:=h2;exact DataW.trod_lt m _ _ _ hm
 obtain⟨x2,s2,w2⟩:=dZ (by kernel_rfl) (hval 2 5 v2 rfl rfl) h2
 obtain⟨n2,rfl⟩:=aIP s2
 refine(jI (aKE n0 false l1 n2 []) (kS (cL w0 (cL w1 (cL w2 mC))))).mono fun e W' ⟨he,bel⟩=>?_
 subst he
 exact⟨_,rfl,_,_,_,[],_,[],hW',trodAll_mk1 (shut_bool Tryz.underlying4 _),(trodAll_cons_mk (Below.trod eC (by kernel_rfl) (of_decide_eq_true (by kernel_rfl)) h0 bel lt0) (trodAll_cons_mk (Below.trod eC (by kernel_rfl) (of_decide_eq_true (by kernel_rfl)) h1 bel lt1) (trodAll_cons_mk (Below.trod eC (by kernel_rfl) (of_decide_eq_true (by kernel_rfl)) h2 bel lt2) trodAll_mk0))),rfl,bel.frame _,fun h=>by cases h⟩
theorem aDQ:Rows.ModelOpsSaid:=
 OpenClaim.holds_of_wide 9 Tryz.f9 rfl rfl rfl rfl rfl rfl rfl ⟨rfl,rfl,rfl,rfl,rfl⟩ rfl rfl rfl rfl rfl (by kernel_rfl) Tryz.func9 (by kernel_rfl)
  (of_decide_eq_true (by kernel_rfl)) (by unfold Func.isWrapper;first|(rw[if_pos (by decide+kernel)];kernel_rfl)|(rw[if_neg (by decide+kernel)];exact⟨rfl,rfl⟩))
  (fun os started H enc _=>aA6 os started H enc)
theorem provedModelOps:Rows.ModelOpsCardSaid:=
 Claim7.holds_tied_plain_at .later [] [.data,.pinned] true (true,"aa85309be068a12bcf86355bf905a7ff64a0c164a5d1394cc54c7d4c672dc33f") true aDQ (fun _ h=>by cases h) (by kernel_rfl) (fun _ h=>by cases h) modelOps_row_tie rfl ⟨rfl,rfl⟩ (by kernel_rfl) rfl
  (fun f fn hf hfn=>by
   obtain rfl:f=9:=Option.some.inj ((show Tryz.prog.funcNamed "gunwale/gunwalelaw19.ModelOps" =some 9 by kernel_rfl).symm.trans hf)|>.symm
   obtain rfl:fn=Tryz.f9:=(Option.some.inj (Tryz.func9.symm.trans hfn)).symm
   exact⟨by kernel_rfl,fun j t ht=>by
    rw[Tryz.params9]at ht
    have hm:t∈[5,22,5]:=by simpa using Array.mem_of_getElem? ht
    have hall:([5,22,5].all fun u=> !Tryz.prog.wantsStandIn u)=true:=by kernel_rfl
    exact(show Tryz.prog.wantsStandIn t=false by simpa using List.all_eq_true.1 hall t hm)⟩)
  (by kernel_rfl)
end Go.Proofs.YthhdnjiodklmmaaGreatDoor

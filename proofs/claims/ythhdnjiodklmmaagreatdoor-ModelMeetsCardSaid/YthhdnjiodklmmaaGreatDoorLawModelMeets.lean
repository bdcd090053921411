/- The row of ModelMeets: the walk's contract, put into the row's own words. No condition. -/
import Derived.Test.YthhdnjiodklmmaaGreatDoorWorkAE
import Derived.Test.YthhdnjiodklmmaaGreatDoorWorkAF
import Derived.Test.YthhdnjiodklmmaaGreatDoorWorkAU
import Derived.Test.YthhdnjiodklmmaaGreatDoorWorkBB
import Derived.Test.YthhdnjiodklmmaaGreatDoorWorkBX
import Derived.Test.YthhdnjiodklmmaaGreatDoorRows
import Derived.Test.YthhdnjiodklmmaaGreatDoorCards
import Derived.Test.YthhdnjiodklmmaaGreatDoorTie
import Derived.LaidMore
import Derived.Lay
import Derived.SevenTiedAt
set_option linter.unusedSimpArgs false
set_option linter.unusedVariables false
set_option linter.unusedSectionVars false
namespace Go.Proofs.YthhdnjiodklmmaaGreatDoor
open Go Go.Aw Go.Gw
set_option linter.unusedSimpArgs false
set_option linter.unusedVariables false
set_option maxRecDepth 20000
set_option maxHeartbeats 4000000
def lQ:List Pl:=[.pure 0,.pure 0,.pure 0,.pure 0,.pure 0,.eff [true,true,true,true,true],.eff [false,false,false,false,false]]
attribute [go_sem] lQ
theorem aFu(b1 b2:Bool)(k l:List Cal)(H:AHeap):cJ Tryz.prog 10 [.sl b1 (k.map gZ),.sl b2 (l.map gZ)] H (.bool true):=by
 refine aL Tryz.func10 rfl (Nat.le_of_ble_eq_true rfl) ?_
 have hf1:=kZ b1 k 30
 have hf2:=kZ b2 l 30
 have hnw1:=mR 1
 have hnw2:=mR 2
 obtain⟨m0,hm0⟩:∃m0,({md0 with rep:=1,next:=1}:Mdl)=m0:=⟨_,rfl⟩
 obtain⟨n0,hn0⟩:∃m0,({md0 with rep:=2,next:=1}:Mdl)=m0:=⟨_,rfl⟩
 have hnew1:oI 1=(m0,0):=by rw[←hm0];rfl
 have hnew2:oI 2=(n0,0):=by rw[←hn0];rfl
 have ow1:Own m0 1 0 []:=⟨nQ hnew1,aE9 hnew1,by rw[←hm0],Nat.le_refl _,fun o ho=>by cases ho⟩
 have ow2:Own n0 2 0 []:=⟨nQ hnew2,aE9 hnew2,by rw[←hn0],Nat.le_refl _,fun o ho=>by cases ho⟩
 rw[hnew1]at hnw1
 rw[hnew2]at hnw2
 simp only[cC,iW]at hnw1 hnw2
 cases hfk:iX k 30 with
 |false=>
  rw[hfk]at hf1
  have ct0:=ct bU bT;have ct1:=ct hnw1 bH;have ct2:=ct hnw2 bH;have ct3:=ct hf1 bF;repeat' first|((first|refine gK ?_|refine gS ?_);simp only[go_sem])|refine gA ?_|(refine gD (fun h=>?_) (fun h=>?_)<;>try exact aA h)|fail
  exact done (by simp only[go_sem]) (.refl _)
 |true=>
 rw[hfk]at hf1
 cases hfl:iX l 30 with
 |false=>
  rw[hfl]at hf2
  have ct0:=ct bU bT;have ct1:=ct hnw1 bH;have ct2:=ct hnw2 bH;have ct3:=ct hf1 bF;have ct4:=ct hf2 bF;repeat' first|((first|refine gK ?_|refine gS ?_);simp only[go_sem])|refine gA ?_|(refine gD (fun h=>?_) (fun h=>?_)<;>try exact aA h)|fail
  all_goals exact done (by simp only[go_sem]) (.refl _)
 |true=>
 rw[hfl]at hf2
 obtain⟨hck,hk30⟩:=nR hfk
 obtain⟨hcl,hl30⟩:=nR hfl
 have ct0:=ct bU bT;have ct1:=ct hnw1 bH;have ct2:=ct hnw2 bH;have ct3:=ct hf1 bF;have ct4:=ct hf2 bF;repeat' first|((first|refine gK ?_|refine gS ?_);simp only[go_sem])|refine gA ?_|(refine gD (fun h=>?_) (fun h=>?_)<;>try exact aA h)|fail
 refine aP (ι:=Nat×Mdl×AHeap) (fun s=>[(0,.sl b1 (k.map gZ)),(1,.sl b2 (l.map gZ)),(5,.bool true),(6,.ref H.length 0 0),(8,.ref (H.length+1) 0 0),(10,.int .i64 s.1)])
  (fun s=>H++(.cells 0 (cC false false false false s.2.1).cells::.cells 0 (cC false false false false n0).cells::s.2.2)) (fun s=>s.1≤k.length∧∃ops,Own s.2.1 1 s.1 ops) (fun s=>k.length-s.1) (0,m0,[]) ⟨Nat.zero_le _,_,ow1⟩ ?_ rfl ?_
 ·simp[go_sem]
 rintro⟨q,m,M⟩ ⟨hq,ops1,ho1⟩
 simp only at hq ho1 ⊢
 by_cases hlt:q<k.length
 ·obtain⟨G,hG⟩:∃G,H++(.cells 0 (cC false false false false m).cells::.cells 0 (cC false false false false n0).cells::M)=G:=⟨_,rfl⟩
  rw[hG]
  have g0:hget G H.length=.cells 0 (cC false false false false m).cells:=by rw[←hG];simp only[go_sem]
  have g1:=aT g0 trivial
  have g2:=fM g0 trivial
  have gs:∀X,aD G H.length X=H++(X::.cells 0 (cC false false false false n0).cells::M):=fun X=>by rw[←hG];simp only[go_sem]
  have hgd:=bA gZ hlt
  have hcc:=hck _ (List.getElem_mem hlt)
  obtain⟨c,hce⟩:∃c,c=k[q]:=⟨_,rfl⟩
  rw[←hce]at hgd hcc
  simp only[gZ]at hgd
  have hli:decide ((q:Int)<(k.length:Int))=true:=decide_eq_true (by omega)
  have hk0:((0:Int)≤(q:Int))=True:=eq_true (by omega)
  have hki:((q:Int)<(k.length:Int))=True:=eq_true (by omega)
  have hw':IntKind.i64.wrap ((q:Int)+1)=((q+1:Nat):Int):=bD hlt (by omega)
  have hdo:=jA false false false false m ho1.mi c hcc
  have how:=aJ9 ho1 (c:=c)
  obtain⟨⟨y,a,o⟩,hr⟩:∃r,doM m c=r:=⟨_,rfl⟩
  rw[hr]at hdo how
  simp only at how
  simp only[doV,cC,iW,gZ,iD]at hdo
  repeat' first|((first|refine aV (hdo _) aN ?_|refine aW (hdo _) aN ?_|refine aX (fun _=>hdo _) aN ?_|refine cE (id:=10) [.pure 3,.free,.free,.pure 3,.pure 3,.pure 3,.free,.free,.free,.free] [.eff [],.eff [],.free] 10 31 39 11 12 jU rfl (by kernel_rfl) (by kernel_rfl) (by kernel_rfl) (by kernel_rfl) ?_|refine cE (id:=16) [.pure 3,.free,.free,.pure 3,.pure 3,.pure 3,.free,.free,.free,.free] [.eff [],.eff [],.free] 10 31 39 15 16 jU rfl (by kernel_rfl) (by kernel_rfl) (by kernel_rfl) (by kernel_rfl) ?_|refine mx [18,19] lQ ?_|refine gS ?_);simp only[go_sem,cC,iW,iD,g0,g1,g2,hgd,hli,hlt,hki,hk0])|((with_reducible refine And.intro ?_ ?_);focus (exact aK (hdo _) aN))|((with_reducible refine And.intro (And.intro ?_ ?_) ?_);focus (exact aK (hdo _) aN))|(exact aK (hdo _) aN)|refine gA ?_|(refine gD (fun h=>?_) (fun h=>?_)<;>try exact aA h)|fail
  ·exact⟨(q+1,y,M++[.cells 2 (cC false false false false y).cells,.cells 2 (iD false false a).cells]),⟨hlt,how (by simpa using h)⟩,by simp only;omega,congrArg _ hw',by rw[gs];simp[cC,iW,iD,AV.cells]⟩
  ·exact⟨(q+1,m,M),⟨hlt,ops1,ho1.mi,ho1.oi,ho1.rep,Nat.le_succ_of_le ho1.len,ho1.all⟩,by simp only;omega,congrArg _ hw',hG.symm⟩
 have hqe:q=k.length:=by omega
 subst hqe
 have hli:decide ((k.length:Int)<(k.length:Int))=false:=by simp
 repeat' first|(refine gS ?_;simp only[go_sem,hli])|refine gA ?_|(refine gD (fun h=>?_) (fun h=>?_)<;>try exact aA h)|fail
 refine aP (ι:=Nat×Mdl×AHeap) (fun s=>[(0,.sl b1 (k.map gZ)),(1,.sl b2 (l.map gZ)),(5,.bool true),(6,.ref H.length 0 0),(8,.ref (H.length+1) 0 0),(14,.int .i64 s.1)])
  (fun s=>H++(.cells 0 (cC false false false false m).cells::.cells 0 (cC false false false false s.2.1).cells::s.2.2)) (fun s=>s.1≤l.length∧∃ops,Own s.2.1 2 s.1 ops) (fun s=>l.length-s.1) (0,n0,M) ⟨Nat.zero_le _,_,ow2⟩ ?_ rfl ?_
 ·simp[go_sem]
 rintro⟨q,n,M⟩ ⟨hq,ops2,ho2⟩
 simp only at hq ho2 ⊢
 by_cases hlt:q<l.length
 ·obtain⟨G,hG⟩:∃G,H++(.cells 0 (cC false false false false m).cells::.cells 0 (cC false false false false n).cells::M)=G:=⟨_,rfl⟩
  rw[hG]
  have g0:hget G (H.length+1)=.cells 0 (cC false false false false n).cells:=by rw[←hG];simp only[go_sem]
  have g1:=aT g0 trivial
  have g2:=fM g0 trivial
  have gs:∀X,aD G (H.length+1) X=H++(.cells 0 (cC false false false false m).cells::X::M):=fun X=>by rw[←hG];simp only[go_sem]
  have hgd:=bA gZ hlt
  have hcc:=hcl _ (List.getElem_mem hlt)
  obtain⟨c,hce⟩:∃c,c=l[q]:=⟨_,rfl⟩
  rw[←hce]at hgd hcc
  simp only[gZ]at hgd
  have hli:decide ((q:Int)<(l.length:Int))=true:=decide_eq_true (by omega)
  have hk0:((0:Int)≤(q:Int))=True:=eq_true (by omega)
  have hki:((q:Int)<(l.length:Int))=True:=eq_true (by omega)
  have hw':IntKind.i64.wrap ((q:Int)+1)=((q+1:Nat):Int):=bD hlt (by omega)
  have hdo:=jA false false false false n ho2.mi c hcc
  have how:=aJ9 ho2 (c:=c)
  obtain⟨⟨y,a,o⟩,hr⟩:∃r,doM n c=r:=⟨_,rfl⟩
  rw[hr]at hdo how
  simp only at how
  simp only[doV,cC,iW,gZ,iD]at hdo
  repeat' first|((first|refine aV (hdo _) aN ?_|refine aW (hdo _) aN ?_|refine aX (fun _=>hdo _) aN ?_|refine cE (id:=10) [.pure 3,.free,.free,.pure 3,.pure 3,.pure 3,.free,.free,.free,.free] [.eff [],.eff [],.free] 10 31 39 11 12 jU rfl (by kernel_rfl) (by kernel_rfl) (by kernel_rfl) (by kernel_rfl) ?_|refine cE (id:=16) [.pure 3,.free,.free,.pure 3,.pure 3,.pure 3,.free,.free,.free,.free] [.eff [],.eff [],.free] 10 31 39 15 16 jU rfl (by kernel_rfl) (by kernel_rfl) (by kernel_rfl) (by kernel_rfl) ?_|refine mx [18,19] lQ ?_|refine gS ?_);simp only[go_sem,cC,iW,iD,g0,g1,g2,hgd,hli,hlt,hki,hk0])|((with_reducible refine And.intro ?_ ?_);focus (exact aK (hdo _) aN))|((with_reducible refine And.intro (And.intro ?_ ?_) ?_);focus (exact aK (hdo _) aN))|(exact aK (hdo _) aN)|refine gA ?_|(refine gD (fun h=>?_) (fun h=>?_)<;>try exact aA h)|fail
  ·exact⟨(q+1,y,M++[.cells 2 (cC false false false false y).cells,.cells 2 (iD false false a).cells]),⟨hlt,how (by simpa using h)⟩,by simp only;omega,congrArg _ hw',by rw[gs];simp[cC,iW,iD,AV.cells]⟩
  ·exact⟨(q+1,n,M),⟨hlt,ops2,ho2.mi,ho2.oi,ho2.rep,Nat.le_succ_of_le ho2.len,ho2.all⟩,by simp only;omega,congrArg _ hw',hG.symm⟩
 have hqe:q=l.length:=by omega
 subst hqe
 have hli:decide ((l.length:Int)<(l.length:Int))=false:=by simp
 obtain⟨hm1,hm2⟩:=aKa ho1 ho2 (by omega)
 have la:=aMH ho1 ho2 (by decide) (by omega)
 have ga:Go.Gw.Good (fO m (opsG n.log)).log:=qG ho1.mi.good (opsG n.log)
 have fit:∀{x y:Mdl},MI x→MI y→Fit x.log (opsG y.log).length:=fun{x y} hx hy=>⟨fun e he=>aAO (hx.good.ok _ (List.mem_map_of_mem he)),hx.cap,by
  have:=hx.nodes.len
  have:=hy.ops_len
  omega⟩
 have hol:∀{x:Mdl},MI x→(opsG x.log).length≤100000:=fun{x} hx=>by have:=hx.ops_len;omega
 have hoS:∀{x:Mdl},MI x→∀o∈opsG x.log,OpS o:=fun{x} hx o ho=>aAO (hx.good.ok o ho)
 have ho3:=aJz false false n.log (by have:=ho2.mi.cap;omega)
 have ho4:=aJz false false m.log (by have:=ho1.mi.cap;omega)
 have hr1:=xA false false false false false m (opsG n.log) (fit ho1.mi ho2.mi) (hol ho2.mi) (hoS ho2.mi)
 have hr2:=xA false false false false false n (opsG m.log) (fit ho2.mi ho1.mi) (hol ho1.mi) (hoS ho1.mi)
 obtain⟨a,ha⟩:∃a,fO m (opsG n.log)=a:=⟨_,rfl⟩
 obtain⟨b,hb⟩:∃b,fO n (opsG m.log)=b:=⟨_,rfl⟩
 rw[ha]at hm1 hm2 la ga hr1
 rw[hb]at hm1 hm2 hr2
 have na:=aKb ga la
 have hi1:=aGf false a.log.nodes 0 na.frs.wf (by decide) (by have:=na.len;omega) (aA2 na)
 have hs:=aCk false false false false a.log b.log
 rw[decide_eq_true hm1]at hs
 have hbn:b.log.nodes=a.log.nodes:=by rw[hm1]
 have ds:decide (a.seen=b.seen)=true:=decide_eq_true hm2
 have hln:=mQ na.frs.wf (show dirI 0=true by decide)
 have hl2:=na.len
 obtain⟨its,hits⟩:∃its,dD a.log.nodes 0=its:=⟨_,rfl⟩
 rw[hits]at hi1 hln
 simp only[zW]at ho3 ho4 hs
 simp only[cC,iW]at hr1 hr2
 simp only[hbn]at hr2 hs
 obtain⟨G,hG⟩:∃G,H++(.cells 0 (cC false false false false m).cells::.cells 0 (cC false false false false n).cells::M)=G:=⟨_,rfl⟩
 rw[hG]
 have g0:hget G H.length=.cells 0 (cC false false false false m).cells:=by rw[←hG];simp only[go_sem]
 have g1:hget G (H.length+1)=.cells 0 (cC false false false false n).cells:=by rw[←hG];simp only[go_sem]
 have g2:=aT g0 trivial
 have g3:=aT g1 trivial
 have ct0:=ct hi1 wC;repeat' first|((first|refine gK ?_|refine aV (ho3 _) fJ ?_|refine aW (ho3 _) fJ ?_|refine aX (fun _=>ho3 _) fJ ?_|refine aV (ho4 _) fJ ?_|refine aW (ho4 _) fJ ?_|refine aX (fun _=>ho4 _) fJ ?_|refine aV (hr1 _) eZ ?_|refine aW (hr1 _) eZ ?_|refine aX (fun _=>hr1 _) eZ ?_|refine aV (hr2 _) eZ ?_|refine aW (hr2 _) eZ ?_|refine aX (fun _=>hr2 _) eZ ?_|refine cE (id:=10) [.pure 3,.free,.free,.pure 3,.pure 3,.pure 3,.free,.free,.free,.free] [.eff [],.eff [],.free] 10 31 39 11 12 jU rfl (by kernel_rfl) (by kernel_rfl) (by kernel_rfl) (by kernel_rfl) ?_|refine cE (id:=16) [.pure 3,.free,.free,.pure 3,.pure 3,.pure 3,.free,.free,.free,.free] [.eff [],.eff [],.free] 10 31 39 15 16 jU rfl (by kernel_rfl) (by kernel_rfl) (by kernel_rfl) (by kernel_rfl) ?_|refine mx [18,19] lQ ?_|refine gS ?_);simp only[go_sem,hli,g0,g1,g2,g3,cC,iW])|((with_reducible refine And.intro ?_ ?_);focus (exact aK (ho3 _) fJ))|((with_reducible refine And.intro (And.intro ?_ ?_) ?_);focus (exact aK (ho3 _) fJ))|(exact aK (ho3 _) fJ)|((with_reducible refine And.intro ?_ ?_);focus (exact aK (ho4 _) fJ))|((with_reducible refine And.intro (And.intro ?_ ?_) ?_);focus (exact aK (ho4 _) fJ))|(exact aK (ho4 _) fJ)|((with_reducible refine And.intro ?_ ?_);focus (exact aK (hr1 _) eZ))|((with_reducible refine And.intro (And.intro ?_ ?_) ?_);focus (exact aK (hr1 _) eZ))|(exact aK (hr1 _) eZ)|((with_reducible refine And.intro ?_ ?_);focus (exact aK (hr2 _) eZ))|((with_reducible refine And.intro (And.intro ?_ ?_) ?_);focus (exact aK (hr2 _) eZ))|(exact aK (hr2 _) eZ)|refine gA ?_|(refine gD (fun h=>?_) (fun h=>?_)<;>try exact aA h)|fail
 refine aP (ι:=Nat) (fun i=>[(5,.bool true),(18,.ref G.length 0 0),(19,.ref (G.length+1) 0 0),(20,.sl false (its.map itA)),(21,.sl false (its.map itA)),(22,.int .i64 i)]) (fun _=>_) (fun i=>i≤its.length) (fun i=>its.length-i) 0 (Nat.zero_le _) ?_ rfl ?_
 ·simp[go_sem]
 intro i hi
 by_cases hlt:i<its.length
 ·have hgd:=aMY hlt
  simp only[itA]at hgd
  have hli:decide ((i:Int)<(its.length:Int))=true:=decide_eq_true (by omega)
  have hk0:((0:Int)≤(i:Int))=True:=eq_true (by omega)
  have hki:((i:Int)<(its.length:Int))=True:=eq_true (by omega)
  repeat' first|(refine gS ?_;simp only[go_sem,hgd,hli,hlt,hki,hk0])|refine gA ?_|(refine gD (fun h=>?_) (fun h=>?_)<;>try exact aA h)|fail
  exact⟨i+1,hlt,by omega,congrArg _ (bD hlt (by omega))⟩
 ·have hie:i=its.length:=by omega
  subst hie
  have hli:decide ((its.length:Int)<(its.length:Int))=false:=by simp
  have ct0:=ct hs wB;repeat' first|((first|refine gK ?_|refine gS ?_);simp only[go_sem,hli,ds])|refine gA ?_|(refine gD (fun h=>?_) (fun h=>?_)<;>try exact aA h)|fail
  exact sI (by rw[←hG,List.append_assoc]) (by simp only[go_sem]) (.refl _)
open Go Go.Aw Go.ChangeShapes Go.WideShapes Go.ChangeAt Go.RowKit
set_option maxRecDepth 100000 in
theorem xC(os:Os)(started:os.Started)(H:Type)(enc:TypeId×Value→H):
  ReturnsInHanded {} Tryz.checked os 10 .any (fun w args=>(Rows.modelMeetsSpec.pre enc Tryz.prog Tryz.f10 Rows.modelMeetsRow.domain false w args∧laidMetH Tryz.prog Rows.modelMeetsRow.laid w)∧sizedMet enc Tryz.prog Tryz.f10 (OpenSpec.ofChange Rows.modelMeetsSpec) false w args) (Rows.modelMeetsSpec.post enc Tryz.prog Tryz.f10 false true false false):=by
 refine returnsInHanded_of_change_and (C:=Tryz.checked) (X:=fun w _=>laidMetH Tryz.prog Rows.modelMeetsRow.laid w) (fun _ _ _ hh h=>h.of_heap hh) own started (by kernel_rfl) Tryz.func10
  (ChangeSpec.witness_shaped (enc:=enc) (C:=Tryz.checked) (os:=os) (X:=fun w _=>laidMetH Tryz.prog Rows.modelMeetsRow.laid w) false (World.laidAll Tryz.prog os Rows.modelMeetsRow.laid) #[.slice none 0 0,.slice none 0 0] 8 (World.laidAll_os _ _ _)
   (World.shaped_of_ZipB (by kernel_rfl) (by kernel_rfl)) (by kernel_rfl) (by kernel_rfl) (by kernel_rfl)
   (by rw[MakeChecks.laidMetH_plain _ _ _ (by kernel_rfl)];exact laidMet_laidAll _ (by kernel_rfl) (by kernel_rfl))) ?_
 intro W base args ds gs before hval0 hW hcnd _ hL _
 have hval:∀(j:Nat) t v,Tryz.f10.params[j]?=some t→args[j]?=some v→Value.okWide Tryz.prog W .any base t v:=hval0
 have hW':=hW
 obtain⟨p,q,hA0,hV,rfl,hfz,hnd⟩:=hW
 have hA:DataW.TrodAll enc Tryz.prog W 0 (fun _=>true) true Tryz.f10.params.toList args.toList ds p:=hA0
 rw[Tryz.params10]at hA hval
 obtain⟨v0,vs0,d0,ds0,p0,q0,hargs,rfl,rfl,h0,r0⟩:=trodAll_cons hA
 obtain⟨v1,vs1,d1,ds1,p1,q1,rfl,rfl,rfl,h1,r1⟩:=trodAll_cons r0
 obtain⟨rfl,rfl,rfl⟩:=trodAll_nil r1
 obtain rfl:args= #[v0,v1]:=by cases args;simp_all
 obtain⟨rfl,rfl⟩:=trodVars_none hV
 have lt0:∀x∈p0,x.block<W.heap.size:=by obtain⟨m,hm⟩:=h0;exact DataW.trod_lt m _ _ _ hm
 obtain⟨x0,s0,w0⟩:=dZ (by kernel_rfl) (hval 0 22 v0 rfl rfl) h0
 obtain⟨l0,rfl,ll0⟩:=iZ s0
 have lt1:∀x∈p1,x.block<W.heap.size:=by obtain⟨m,hm⟩:=h1;exact DataW.trod_lt m _ _ _ hm
 obtain⟨x1,s1,w1⟩:=dZ (by kernel_rfl) (hval 1 22 v1 rfl rfl) h1
 obtain⟨l1,rfl,ll1⟩:=iZ s1
 refine(jI (aFu false false l0 l1 []) (kS (cL w0 (cL w1 mC)))).mono fun e W' ⟨he,bel⟩=>?_
 subst he
 exact⟨_,rfl,_,_,_,[],_,[],hW',trodAll_mk1 (shut_bool Tryz.underlying4 _),(trodAll_cons_mk (Below.trod eC (by kernel_rfl) (of_decide_eq_true (by kernel_rfl)) h0 bel lt0) (trodAll_cons_mk (Below.trod eC (by kernel_rfl) (of_decide_eq_true (by kernel_rfl)) h1 bel lt1) trodAll_mk0)),rfl,bel.frame _,fun h=>by cases h⟩
theorem aBk:Rows.ModelMeetsSaid:=
 OpenClaim.holds_of_wide 10 Tryz.f10 rfl rfl rfl rfl rfl rfl rfl ⟨rfl,rfl,rfl,rfl,rfl⟩ rfl rfl rfl rfl rfl (by kernel_rfl) Tryz.func10 (by kernel_rfl)
  (of_decide_eq_true (by kernel_rfl)) (by unfold Func.isWrapper;first|(rw[if_pos (by decide+kernel)];kernel_rfl)|(rw[if_neg (by decide+kernel)];exact⟨rfl,rfl⟩))
  (fun os started H enc _=>xC os started H enc)
theorem provedModelMeets:Rows.ModelMeetsCardSaid:=
 Claim7.holds_tied_plain_at .later [] [.data,.pinned] true (true,"aa85309be068a12bcf86355bf905a7ff64a0c164a5d1394cc54c7d4c672dc33f") true aBk (fun _ h=>by cases h) (by kernel_rfl) (fun _ h=>by cases h) modelMeets_row_tie rfl ⟨rfl,rfl⟩ (by kernel_rfl) rfl
  (fun f fn hf hfn=>by
   obtain rfl:f=10:=Option.some.inj ((show Tryz.prog.funcNamed "gunwale/gunwalelaw19.ModelMeets" =some 10 by kernel_rfl).symm.trans hf)|>.symm
   obtain rfl:fn=Tryz.f10:=(Option.some.inj (Tryz.func10.symm.trans hfn)).symm
   exact⟨by kernel_rfl,fun j t ht=>by
    rw[Tryz.params10]at ht
    have hm:t∈[22,22]:=by simpa using Array.mem_of_getElem? ht
    have hall:([22,22].all fun u=> !Tryz.prog.wantsStandIn u)=true:=by kernel_rfl
    exact(show Tryz.prog.wantsStandIn t=false by simpa using List.all_eq_true.1 hall t hm)⟩)
  (by kernel_rfl)
end Go.Proofs.YthhdnjiodklmmaaGreatDoor

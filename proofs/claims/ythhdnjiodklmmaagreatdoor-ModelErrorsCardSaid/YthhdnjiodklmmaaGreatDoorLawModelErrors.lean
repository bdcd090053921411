/- The row of ModelErrors: the walk's contract, put into the row's own words. No condition. -/
import Derived.Test.YthhdnjiodklmmaaGreatDoorWorkAE
import Derived.Test.YthhdnjiodklmmaaGreatDoorWorkAF
import Derived.Test.YthhdnjiodklmmaaGreatDoorWorkAU
import Derived.Test.YthhdnjiodklmmaaGreatDoorWorkBX
import Derived.Test.YthhdnjiodklmmaaGreatDoorRows
import Derived.Test.YthhdnjiodklmmaaGreatDoorCards
import Derived.Test.YthhdnjiodklmmaaGreatDoorTie
import Derived.LaidMore
import Derived.Lay
import Derived.SevenTiedAt
set_option linter.unusedSimpArgs false
set_option linter.unusedVariables false
set_option linter.unusedSectionVars false
namespace Go.Gw
open Go Go.Aw Go.Proofs.YthhdnjiodklmmaaGreatDoor
theorem aRe{m:Mdl}(h:MI m)(c:Cal):(doM m c).1.log.entries.length=m.log.entries.length+(doM m c).2.2.length:=by
 have hs:=vE h c
 generalize doM m c=r at hs ⊢
 cases hs with
 |err e he=>rfl
 |put o hk hn ho ha=>
  have hl:=(lP hn).2.2.2.2.2
  have hno:∀x∈opsG m.log,x.at_≠o.at_:=fun x hx e=>by have:=h.cnt x hx;rw[e,ha]at this;simp only at this;omega
  show(eK m.log o).entries.length=_
  rw[←iP,yY h.good ho hno hl,yT,iP]
  rfl
 |keep m' a ha h1 h2 h3 h4=>simp only[h1];rfl
 |merge l hk hr hc=>
  obtain⟨f1,f2⟩:=aDB m.log l [] .nil (fun o ho=>by cases ho)
  have hfo:∀o∈freshN m.log [] l,opOk o=true:=fun o hx=>by
   rcases oJ _ _ _ o hx with h|h
   ·cases h
   ·exact qT hr o h
  have a2:=(rR (freshN m.log [] l) h.good hfo f1 f2 hc).2
  have:(mergeM m l).log.entries.length=m.log.entries.length+(freshN m.log [] l).length:=a2
  simp only
  split
  ·exact this
  ·exact this
theorem aRf{m:Mdl}(h:MI m)(c:Cal):((doM m c).2.1.err≠0→doM m c=(m,errA (doM m c).2.1.err,[]))∧((c.kind=4∨c.kind=7∨c.kind=12)→(doM m c).1=m):=by
 have hs:=vE h c
 generalize doM m c=r at hs ⊢
 cases hs with
 |err e he=>exact⟨fun _=>rfl,fun _=>rfl⟩
 |put o hk hn ho ha=>exact⟨fun h=>absurd rfl h,fun h=>by omega⟩
 |keep m' a ha h1 h2 h3 h4=>exact⟨fun h=>absurd ha h,h4⟩
 |merge l hk hr hc=>exact⟨fun h=>absurd rfl h,fun h=>by omega⟩
end Go.Gw
namespace Go.Proofs.YthhdnjiodklmmaaGreatDoor
open Go Go.Aw Go.Gw
set_option linter.unusedSimpArgs false
set_option linter.unusedVariables false
set_option maxRecDepth 20000
set_option maxHeartbeats 4000000
theorem aHS(w:Int)(b:Bool)(l:List Cal)(H:AHeap):cJ Tryz.prog 3 [.int .u8 w,.sl b (l.map gZ)] H (.bool true):=by
 refine gI fun hok1 _=>?_
 have hw:=aIA hok1
 refine aL Tryz.func3 rfl (Nat.le_of_ble_eq_true rfl) ?_
 obtain⟨u,rfl⟩:∃u:Nat,w=(u:Int):=⟨w.toNat,by omega⟩
 have hfew:=kZ b l 30
 have hnw:=mR ((u % 64:Nat):Int)
 have hnew:oI ((u % 64:Nat):Int)=({md0 with rep:=((u % 64:Nat):Int),next:=1},0):=by unfold oI;rw[if_pos (by omega)]
 obtain⟨m0,hm0⟩:∃m0,{md0 with rep:=((u % 64:Nat):Int),next:=1}=m0:=⟨_,rfl⟩
 rw[hm0]at hnew
 have hmi0:=nQ hnew
 rw[hnew]at hnw
 simp only[cC,iW]at hnw
 have hrem:IntKind.i64.wrap ((u:Int).tmod 64)=((u % 64:Nat):Int):=by rw[Int.tmod_eq_emod_of_nonneg (by omega),wrap_i64 (by omega) (by omega)];omega
 cases hfe:iX l 30 with
 |false=>
  rw[hfe]at hfew
  have ct0:=ct bU bT;have ct1:=ct hnw bH;have ct2:=ct hfew bF;repeat' first|((first|refine gK ?_|refine gS ?_);simp only[go_sem,hrem])|refine gA ?_|(refine gD (fun h=>?_) (fun h=>?_)<;>try exact aA h)|fail
  exact done (by simp only[go_sem]) (.refl _)
 |true=>
  rw[hfe]at hfew
  obtain⟨hcs,hl30⟩:=nR hfe
  have ct0:=ct bU bT;have ct1:=ct hnw bH;have ct2:=ct hfew bF;repeat' first|((first|refine gK ?_|refine gS ?_);simp only[go_sem,hrem])|refine gA ?_|(refine gD (fun h=>?_) (fun h=>?_)<;>try exact aA h)|fail
  refine aP (ι:=Nat×Mdl×AHeap) (fun s=>[(1,.sl b (l.map gZ)),(5,.bool true),(6,.ref H.length 0 0),(8,.int .i64 s.1)]) (fun s=>H++(.cells 0 (cC false false false false s.2.1).cells::s.2.2)) (fun s=>s.1≤l.length∧MI s.2.1) (fun s=>l.length-s.1) (0,m0,[]) ⟨Nat.zero_le _,hmi0⟩ ?_ rfl ?_
  ·simp[go_sem]
  rintro⟨k,mk,M⟩ ⟨hk,hmi⟩
  simp only at hk hmi ⊢
  obtain⟨G,hG⟩:∃G,H++(.cells 0 (cC false false false false mk).cells::M)=G:=⟨_,rfl⟩
  rw[hG]
  have g0:hget G H.length=.cells 0 (cC false false false false mk).cells:=by rw[←hG];simp only[go_sem]
  have g1:=aT g0 trivial
  have g2:=fM g0 trivial
  have gs:∀X,aD G H.length X=H++(X::M):=fun X=>by rw[←hG];simp only[go_sem]
  by_cases hlt:k<l.length
  ·have hgd:=bA gZ hlt
   have hcc:=hcs _ (List.getElem_mem hlt)
   obtain⟨c,hce⟩:∃c,c=l[k]:=⟨_,rfl⟩
   rw[←hce]at hgd hcc
   have hdo:=jA false false false false mk hmi c hcc
   have hmi2:=nH hmi c
   have hlen:=aRe hmi c
   obtain⟨herr,hask⟩:=aRf hmi c
   obtain⟨⟨m2,a2,o2⟩,hr⟩:∃r,doM mk c=r:=⟨_,rfl⟩
   rw[hr]at hdo hmi2 hlen herr hask
   simp only at hmi2 hlen herr hask
   have hsame:=aKB false false false false false false false false m2 mk
   simp only[doV,cC,iW,gZ,iD]at hdo hsame
   simp only[gZ]at hgd
   have hli:decide ((k:Int)<(l.length:Int))=true:=decide_eq_true (by omega)
   have hk0:((0:Int)≤(k:Int))=True:=eq_true (by omega)
   have hki:((k:Int)<(l.length:Int))=True:=eq_true (by omega)
   have hw':IntKind.i64.wrap ((k:Int)+1)=((k+1:Nat):Int):=bD hlt (by omega)
   by_cases he:a2.err=0
   ·have de:decide (a2.err=0)=true:=decide_eq_true he
    have hwl:IntKind.i64.wrap ((mk.log.entries.length:Int)+(o2.length:Int))=(m2.log.entries.length:Int):=by
     have h1:=hmi.cap
     have h2:=hmi2.cap
     rw[wrap_i64 (by omega) (by omega),hlen];omega
    by_cases hq:c.kind=4∨c.kind=7∨c.kind=12
    ·have hmm:=hask hq
     rw[decide_eq_true hmm]at hsame
     rcases hq with e|e|e
     all_goals
      have hgd':=hgd
      rw[e]at hgd hdo
      have ct0:=ct hsame aBx;repeat' first|((first|refine gK ?_|refine aV (hdo _) aN ?_|refine aW (hdo _) aN ?_|refine aX (fun _=>hdo _) aN ?_|refine cE (id:=8) [.pure 3,.free,.free,.pure 3,.pure 3,.pure 3,.free,.free,.free,.free] [.eff [],.eff [],.free] 10 31 39 9 10 jU rfl (by kernel_rfl) (by kernel_rfl) (by kernel_rfl) (by kernel_rfl) ?_|refine gS ?_);simp only[go_sem,cC,iW,g0,g1,g2,hgd,hli,hlt,hki,hk0,de,hwl,Int.reduceEq])|((with_reducible refine And.intro ?_ ?_);focus (exact aK (hdo _) aN))|((with_reducible refine And.intro (And.intro ?_ ?_) ?_);focus (exact aK (hdo _) aN))|(exact aK (hdo _) aN)|refine gA ?_|(refine gD (fun h=>?_) (fun h=>?_)<;>try exact aA h)|fail
      exact⟨(k+1,m2,M++[.cells 2 (cC false false false false m2).cells,.cells 2 (anF a2).cells]),⟨hlt,hmi2⟩,by simp only;omega,congrArg _ hw',by rw[gs];simp[cC,iW,iD,AV.cells,he]⟩
    ·have d1:decide (c.kind=4)=false:=decide_eq_false fun e=>hq (.inl e)
     have d2:decide (c.kind=7)=false:=decide_eq_false fun e=>hq (.inr (.inl e))
     have d3:decide (c.kind=12)=false:=decide_eq_false fun e=>hq (.inr (.inr e))
     repeat' first|((first|refine aV (hdo _) aN ?_|refine aW (hdo _) aN ?_|refine aX (fun _=>hdo _) aN ?_|refine cE (id:=8) [.pure 3,.free,.free,.pure 3,.pure 3,.pure 3,.free,.free,.free,.free] [.eff [],.eff [],.free] 10 31 39 9 10 jU rfl (by kernel_rfl) (by kernel_rfl) (by kernel_rfl) (by kernel_rfl) ?_|refine gS ?_);simp only[go_sem,cC,iW,g0,g1,g2,hgd,hli,hlt,hki,hk0,de,hwl,d1,d2,d3])|((with_reducible refine And.intro ?_ ?_);focus (exact aK (hdo _) aN))|((with_reducible refine And.intro (And.intro ?_ ?_) ?_);focus (exact aK (hdo _) aN))|(exact aK (hdo _) aN)|refine gA ?_|(refine gD (fun h=>?_) (fun h=>?_)<;>try exact aA h)|fail
     exact⟨(k+1,m2,M++[.cells 2 (cC false false false false m2).cells,.cells 2 (anF a2).cells]),⟨hlt,hmi2⟩,by simp only;omega,congrArg _ hw',by rw[gs];simp[cC,iW,iD,AV.cells,he]⟩
   ·have hr2:=herr he
    obtain⟨q1,q2,q3⟩:m2=mk∧a2=errA a2.err∧o2=[]:=by
     have h1:=congrArg (fun z=>z.1) hr2
     have h2:=congrArg (fun z=>z.2.1) hr2
     have h3:=congrArg (fun z=>z.2.2) hr2
     exact⟨h1,h2,h3⟩
    have de:decide (a2.err=0)=false:=decide_eq_false he
    have hwl:IntKind.i64.wrap ((mk.log.entries.length:Int)+((0:Nat):Int))=(mk.log.entries.length:Int):=by
     have h1:=hmi.cap
     rw[wrap_i64 (by omega) (by omega)];omega
    have f1:a2.data=[]:=by rw[q2];rfl
    have f2:a2.names=[]:=by rw[q2];rfl
    have f3:a2.n=0:=by rw[q2];rfl
    have f4:a2.events=[]:=by rw[q2];rfl
    rw[decide_eq_true q1]at hsame
    simp only[q1,q3,f1,f2,f3,f4,List.map_nil]at hdo hsame
    have z1:decide ((0:Int)<((0:Nat):Int))=false:=rfl
    have z2:decide ((0:Int)<IntKind.i64.wrap (((0:Nat):Int)+((0:Nat):Int)))=false:=by decide
    have ct0:=ct hsame aBx;repeat' first|((first|refine gK ?_|refine aV (hdo _) aN ?_|refine aW (hdo _) aN ?_|refine aX (fun _=>hdo _) aN ?_|refine cE (id:=8) [.pure 3,.free,.free,.pure 3,.pure 3,.pure 3,.free,.free,.free,.free] [.eff [],.eff [],.free] 10 31 39 9 10 jU rfl (by kernel_rfl) (by kernel_rfl) (by kernel_rfl) (by kernel_rfl) ?_|refine gS ?_);simp only[go_sem,cC,iW,g0,g1,g2,hgd,hli,hlt,hki,hk0,de,hwl,z1,z2])|((with_reducible refine And.intro ?_ ?_);focus (exact aK (hdo _) aN))|((with_reducible refine And.intro (And.intro ?_ ?_) ?_);focus (exact aK (hdo _) aN))|(exact aK (hdo _) aN)|refine gA ?_|(refine gD (fun h=>?_) (fun h=>?_)<;>try exact aA h)|fail
    exact⟨(k+1,mk,M++[.cells 2 (cC false false false false mk).cells,.cells 2 (anF a2).cells]),⟨hlt,hmi⟩,by simp only;omega,congrArg _ hw',by rw[gs];simp[cC,iW,iD,AV.cells,f1,f2,f3,f4]⟩
  ·have hke:k=l.length:=by omega
   have hli:decide ((k:Int)<(l.length:Int))=false:=decide_eq_false (by omega)
   repeat' first|(refine gS ?_;simp only[go_sem,hli])|refine gA ?_|(refine gD (fun h=>?_) (fun h=>?_)<;>try exact aA h)|fail
   exact sI hG (by simp only[go_sem]) (.refl _)
open Go Go.Aw Go.ChangeShapes Go.WideShapes Go.ChangeAt Go.RowKit
set_option maxRecDepth 100000 in
theorem vM(os:Os)(started:os.Started)(H:Type)(enc:TypeId×Value→H):
  ReturnsInHanded {} Tryz.checked os 3 .any (fun w args=>(Rows.modelErrorsSpec.pre enc Tryz.prog Tryz.f3 Rows.modelErrorsRow.domain false w args∧laidMetH Tryz.prog Rows.modelErrorsRow.laid w)∧sizedMet enc Tryz.prog Tryz.f3 (OpenSpec.ofChange Rows.modelErrorsSpec) false w args) (Rows.modelErrorsSpec.post enc Tryz.prog Tryz.f3 false true false false):=by
 refine returnsInHanded_of_change_and (C:=Tryz.checked) (X:=fun w _=>laidMetH Tryz.prog Rows.modelErrorsRow.laid w) (fun _ _ _ hh h=>h.of_heap hh) own started (by kernel_rfl) Tryz.func3
  (ChangeSpec.witness_shaped (enc:=enc) (C:=Tryz.checked) (os:=os) (X:=fun w _=>laidMetH Tryz.prog Rows.modelErrorsRow.laid w) false (World.laidAll Tryz.prog os Rows.modelErrorsRow.laid) #[.int .u8 0,.slice none 0 0] 8 (World.laidAll_os _ _ _)
   (World.shaped_of_ZipB (by kernel_rfl) (by kernel_rfl)) (by kernel_rfl) (by kernel_rfl) (by kernel_rfl)
   (by rw[MakeChecks.laidMetH_plain _ _ _ (by kernel_rfl)];exact laidMet_laidAll _ (by kernel_rfl) (by kernel_rfl))) ?_
 intro W base args ds gs before hval0 hW hcnd _ hL _
 have hval:∀(j:Nat) t v,Tryz.f3.params[j]?=some t→args[j]?=some v→Value.okWide Tryz.prog W .any base t v:=hval0
 have hW':=hW
 obtain⟨p,q,hA0,hV,rfl,hfz,hnd⟩:=hW
 have hA:DataW.TrodAll enc Tryz.prog W 0 (fun _=>true) true Tryz.f3.params.toList args.toList ds p:=hA0
 rw[Tryz.params3]at hA hval
 obtain⟨v0,vs0,d0,ds0,p0,q0,hargs,rfl,rfl,h0,r0⟩:=trodAll_cons hA
 obtain⟨v1,vs1,d1,ds1,p1,q1,rfl,rfl,rfl,h1,r1⟩:=trodAll_cons r0
 obtain⟨rfl,rfl,rfl⟩:=trodAll_nil r1
 obtain rfl:args= #[v0,v1]:=by cases args;simp_all
 obtain⟨rfl,rfl⟩:=trodVars_none hV
 have lt0:∀x∈p0,x.block<W.heap.size:=by obtain⟨m,hm⟩:=h0;exact DataW.trod_lt m _ _ _ hm
 obtain⟨x0,s0,w0⟩:=dZ (by kernel_rfl) (hval 0 5 v0 rfl rfl) h0
 obtain⟨n0,rfl⟩:=aIP s0
 have lt1:∀x∈p1,x.block<W.heap.size:=by obtain⟨m,hm⟩:=h1;exact DataW.trod_lt m _ _ _ hm
 obtain⟨x1,s1,w1⟩:=dZ (by kernel_rfl) (hval 1 22 v1 rfl rfl) h1
 obtain⟨l1,rfl,ll1⟩:=iZ s1
 refine(jI (aHS n0 false l1 []) (kS (cL w0 (cL w1 mC)))).mono fun e W' ⟨he,bel⟩=>?_
 subst he
 exact⟨_,rfl,_,_,_,[],_,[],hW',trodAll_mk1 (shut_bool Tryz.underlying4 _),(trodAll_cons_mk (Below.trod eC (by kernel_rfl) (of_decide_eq_true (by kernel_rfl)) h0 bel lt0) (trodAll_cons_mk (Below.trod eC (by kernel_rfl) (of_decide_eq_true (by kernel_rfl)) h1 bel lt1) trodAll_mk0)),rfl,bel.frame _,fun h=>by cases h⟩
theorem aA3:Rows.ModelErrorsSaid:=
 OpenClaim.holds_of_wide 3 Tryz.f3 rfl rfl rfl rfl rfl rfl rfl ⟨rfl,rfl,rfl,rfl,rfl⟩ rfl rfl rfl rfl rfl (by kernel_rfl) Tryz.func3 (by kernel_rfl)
  (of_decide_eq_true (by kernel_rfl)) (by unfold Func.isWrapper;first|(rw[if_pos (by decide+kernel)];kernel_rfl)|(rw[if_neg (by decide+kernel)];exact⟨rfl,rfl⟩))
  (fun os started H enc _=>vM os started H enc)
theorem provedModelErrors:Rows.ModelErrorsCardSaid:=
 Claim7.holds_tied_plain_at .later [] [.data,.pinned] true (true,"aa85309be068a12bcf86355bf905a7ff64a0c164a5d1394cc54c7d4c672dc33f") true aA3 (fun _ h=>by cases h) (by kernel_rfl) (fun _ h=>by cases h) modelErrors_row_tie rfl ⟨rfl,rfl⟩ (by kernel_rfl) rfl
  (fun f fn hf hfn=>by
   obtain rfl:f=3:=Option.some.inj ((show Tryz.prog.funcNamed "gunwale/gunwalelaw19.ModelErrors" =some 3 by kernel_rfl).symm.trans hf)|>.symm
   obtain rfl:fn=Tryz.f3:=(Option.some.inj (Tryz.func3.symm.trans hfn)).symm
   exact⟨by kernel_rfl,fun j t ht=>by
    rw[Tryz.params3]at ht
    have hm:t∈[5,22]:=by simpa using Array.mem_of_getElem? ht
    have hall:([5,22].all fun u=> !Tryz.prog.wantsStandIn u)=true:=by kernel_rfl
    exact(show Tryz.prog.wantsStandIn t=false by simpa using List.all_eq_true.1 hall t hm)⟩)
  (by kernel_rfl)
end Go.Proofs.YthhdnjiodklmmaaGreatDoor
